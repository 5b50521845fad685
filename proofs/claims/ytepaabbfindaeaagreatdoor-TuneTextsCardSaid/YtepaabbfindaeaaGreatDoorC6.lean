/- Contracts over the abstract machine: events (package tune). Conditions: none. -/
import Derived.Test.YtepaabbfindaeaaGreatDoorC5
set_option linter.unusedVariables false
set_option linter.unusedSimpArgs false
namespace Go.Proofs.YtepaabbfindaeaaGreatDoor.Am.M
open Go

def validS (l : List Stp) (L : List Lst) (i : Nat) (m : Int) : Bool := (untilS l L i).2 && decide (m ≤ (untilS l L i).1)
set_option maxRecDepth 100000 in
theorem valid_p (l : List Stp) (L : List Lst) (hr : RightS l) (hL : L.length = l.length) (hm : ∀ y ∈ L, 0 ≤ y.minute ∧ y.minute ≤ 100000000) (i : Nat) (hi : i < l.length) (m : Int) : PC Tryz.prog 33 [bookD l L, .v (.int .i64 (i)), .v (.int .i64 (m))] (.v (.bool (validS l L i m))) := by
  refine pc_of_awp Tryz.func33 rfl Tryz.ntmps33 (rs := [.tmp 6]) Tryz.results33 (by simp) fun w0 => ?_
  refine awp_seq ?_
  refine awp_region 1 mixed (by kernel_rfl) ?_
  refine rg_q (q_assign (x := .d (.v _)) rfl) ?_
  refine rg_nil ?_
  refine aops_nil ?_
  change Awp _ _ _ _ _
  refine awp_seq ?_
  refine awp_region 8 mixed (by kernel_rfl) ?_
  first | refine rg_q (q_move (x := .d (.pt _ _)) rfl) ?_ | refine rg_q (q_move (x := .ref _ _) rfl) ?_ | refine rg_q (q_move (x := .d (.v _)) rfl) ?_ | refine rg_q (q_move (x := .d _) rfl) ?_
  refine rg_q (q_move (x := .d (.v _)) rfl) ?_
  first | refine rg_q (q_call en34 (.cons rfl (.cons rfl .nil)) rfl (until_p l L hr hL hm i hi)) ?_ | refine rg_q (q_callF en34 (.cons (by first | exact .d _ | exact .rs rfl | exact .ref rfl | exact .nil _ | exact .tref rfl (by repeat (first | exact .nil | refine .cons (.d _ rfl) ?_ | refine .cons (.rs rfl) ?_))) (.cons (by first | exact .d _ | exact .rs rfl | exact .ref rfl | exact .nil _ | exact .tref rfl (by repeat (first | exact .nil | refine .cons (.d _ rfl) ?_ | refine .cons (.rs rfl) ?_))) .nil)) rfl (until_p l L hr hL hm i hi) (by first | exact .v _ | exact D.Flat.tupF (by repeat first | exact trivial | refine ⟨.v _, ?_⟩) | exact D.Flat.aggF (by repeat first | exact trivial | refine ⟨.v _, ?_⟩))) ?_
  refine rg_q (q_move (x := .d (.tup _)) rfl) ?_
  refine rg_q (q_extract rfl rfl) ?_
  refine rg_q (q_extract rfl rfl) ?_
  refine rg_q (q_assign (x := .d (.v _)) rfl) ?_
  refine rg_q (q_assign (x := .d (.v _)) rfl) ?_
  refine rg_nil ?_
  refine aops_nil ?_
  change Awp _ _ _ _ _
  refine awp_seq ?_
  refine awp_region 7 mixed (by kernel_rfl) ?_
  refine rg_q (q_move (x := .d (.v _)) rfl) ?_
  refine rg_q (q_move (x := .d (.v _)) rfl) ?_
  refine rg_g rfl rfl (fun hG => (q_move (x := .d (.v _)) rfl)) ?_
  refine rg_g rfl rfl (fun hG => (q_move (x := .d (.v _)) rfl)) ?_
  refine rg_g rfl rfl (fun hG => (q_leq rfl rfl)) ?_
  first | refine rg_pick rfl rfl rfl rfl rfl rfl ?_ | refine rg_q (q_pick rfl rfl rfl) ?_
  refine rg_q (q_assign (x := .d (.v _)) rfl) ?_
  refine rg_nil ?_
  refine aops_nil ?_
  change Awp _ _ _ _ _
  refine awp_ret ?_
  refine ⟨_, (.cons (.tmp (by first | exact .d _ | exact .rs rfl | exact .ref rfl | exact .tref rfl (.cons (.d _ rfl) (.cons (.rs rfl) .nil)))) .nil), ?_⟩
  simp only [bif_and]; rfl

structure BookOk (l : List Stp) (L : List Lst) : Prop where
  w : WarmOk l L
  m : ∀ y ∈ L, 0 ≤ y.minute ∧ y.minute ≤ 100000000
structure EvOk (x : Evt) : Prop where
  m1 : 0 ≤ x.minute
  m2 : x.minute ≤ 100000000
  w1 : -2000 ≤ x.warmth
  w2 : x.warmth ≤ 2000
theorem addOne_in (s : Stp) (i : Int) (y : Lst) (x : Evt) : ((addOne s i y x).minute = y.minute ∧ (addOne s i y x).warmth = y.warmth) ∨ ((addOne s i y x).minute = x.minute ∧ (addOne s i y x).warmth = x.warmth) := by
  unfold addOne
  split
  · exact .inr ⟨rfl, rfl⟩
  · split
    · exact .inl ⟨rfl, rfl⟩
    · exact .inl ⟨rfl, rfl⟩
theorem addS_mem {l : List Stp} {L : List Lst} {x : Evt} {z : Lst} (h : z ∈ addS l L x) : ∃ y ∈ L, (z.minute = y.minute ∧ z.warmth = y.warmth) ∨ (z.minute = x.minute ∧ z.warmth = x.warmth) := by
  obtain ⟨i, hi⟩ := List.getElem?_of_mem h
  simp only [addS, List.getElem?_mapIdx] at hi
  cases hL : L[i]? with
  | none => rw [hL] at hi; cases hi
  | some y =>
    rw [hL] at hi; cases hi
    exact ⟨y, List.mem_of_getElem? hL, addOne_in _ _ _ _⟩
theorem bookOk_add {l : List Stp} {L : List Lst} {x : Evt} (h : BookOk l L) (hx : EvOk x) : BookOk l (addS l L x) := by
  obtain ⟨h1, h2, h3, h4⟩ := hx
  refine ⟨⟨by rw [addS_len]; exact h.w.len, h.w.few, fun z hz => ?_⟩, fun z hz => ?_⟩
  · obtain ⟨y, hy, ⟨_, e⟩ | ⟨_, e⟩⟩ := addS_mem hz
    · rw [e]; exact h.w.warm y hy
    · rw [e]; exact ⟨h3, h4⟩
  · obtain ⟨y, hy, ⟨e, _⟩ | ⟨e, _⟩⟩ := addS_mem hz
    · rw [e]; exact h.m y hy
    · rw [e]; exact ⟨h1, h2⟩
theorem bookOk_new {l : List Stp} (h : l.length ≤ 10) : BookOk l (List.replicate l.length zeroL) :=
  ⟨⟨by simp, h, fun y hy => by rw [(List.mem_replicate.1 hy).2]; decide⟩, fun y hy => by rw [(List.mem_replicate.1 hy).2]; decide⟩
def lessP : Option Int → Int → Bool
  | some d, y => decide (y < d)
  | none, _ => false
def evBad (l : List Stp) (L : List Lst) (p : Option Int) (x : Evt) : Int :=
  if inR 0 x.minute 100000000 = false then 2 else if inR (-1) x.step ((l.length : Int) - 1) = false then 6 else if inR (-2000) x.warmth 2000 = false then 2 else if lessP p x.minute = true then 9 else
  if x.step ≠ -1 ∧ ((l.getD x.step.toNat nilS).needs.all fun n => validS l (addS l L ⟨x.minute, -1, x.warmth⟩) n.toNat x.minute) = false then 20 else 0
def followFrom (l : List Stp) : Option Int → List Lst → Nat → List Evt → Option (List Lst) × Int × Int
  | _, L, _, [] => (some L, 0, 0)
  | p, L, i, x :: xs => if evBad l L p x ≠ 0 then (none, i, evBad l L p x) else followFrom l (some x.minute) (addS l L x) (i + 1) xs
def followS (l : List Stp) (ev : List Evt) : Option (List Lst) × Int × Int :=
  if (ckS l).2 ≠ 0 then (none, 0, (ckS l).2) else if 60 < ev.length then (none, 0, 8) else followFrom l none (List.replicate l.length zeroL) 0 ev
def bookR (l : List Stp) : Option (List Lst) → D
  | none => .v (.pointer none)
  | some L => bookD l L
def prevE (l : List Evt) : Nat → Option Int
  | 0 => none
  | k + 1 => (l[k]?).map (·.minute)
set_option maxRecDepth 100000 in
theorem follow_p (l : List Stp) (hs : ∀ s ∈ l, SzOk s.nm) (ev : List Evt) : PC Tryz.prog 31 [.sl 4 (l.map stepC), .sl 3 (ev.map evC)] (.tup [bookR l (followS l ev).1, .v (.int .i64 ((followS l ev).2.1)), .v (.int .i64 ((followS l ev).2.2))]) := by
  refine pc_of_awp Tryz.func31 rfl Tryz.ntmps31 (rs := [.tmp 4, .tmp 5, .tmp 6]) Tryz.results31 (by simp) fun w0 => ?_
  refine awp_seq ?_
  refine awp_region 3 mixed (by kernel_rfl) ?_
  first | refine rg_q (q_assign (x := .d (.pt _ _)) rfl) ?_ | refine rg_q (q_assign (x := .ref _ _) rfl) ?_ | refine rg_q (q_assign (x := .d (.v _)) rfl) ?_ | refine rg_q (q_assign (x := .d _) rfl) ?_
  refine rg_q (q_assign (x := .d (.v _)) rfl) ?_
  refine rg_q (q_assign (x := .d (.v _)) rfl) ?_
  refine rg_nil ?_
  refine aops_nil ?_
  change Awp _ _ _ _ _
  refine awp_seq ?_
  refine awp_seq ?_
  refine awp_region 7 mixed (by kernel_rfl) ?_
  first | refine rg_q (q_move (x := .d (.sl _ _)) rfl) ?_ | refine rg_q (q_move (x := .rs _) rfl) ?_ | refine rg_q (q_move (x := .d (.v _)) rfl) ?_
  first | refine rg_q (q_call en52 (.cons rfl .nil) rfl (checkSteps_p l hs)) ?_ | refine rg_q (q_callF en52 (.cons (by first | exact .d _ | exact .rs rfl | exact .ref rfl | exact .nil _ | exact .tref rfl (by repeat (first | exact .nil | refine .cons (.d _ rfl) ?_ | refine .cons (.rs rfl) ?_))) .nil) rfl (checkSteps_p l hs) (by first | exact .v _ | exact D.Flat.tupF (by repeat first | exact trivial | refine ⟨.v _, ?_⟩) | exact D.Flat.aggF (by repeat first | exact trivial | refine ⟨.v _, ?_⟩))) ?_
  refine rg_q (q_move (x := .d (.tup _)) rfl) ?_
  refine rg_q (q_extract rfl rfl) ?_
  refine rg_q (q_extract rfl rfl) ?_
  refine rg_q (q_assign (x := .d (.v _)) rfl) ?_
  refine rg_q (q_assign (x := .d (.v _)) rfl) ?_
  refine rg_nil ?_
  refine aops_nil ?_
  change Awp _ _ _ _ _
  refine awp_seq ?_
  refine awp_region 2 mixed (by kernel_rfl) ?_
  refine rg_q (q_move (x := .d (.v _)) rfl) ?_
  refine rg_q (q_neq rfl rfl) ?_
  refine rg_nil ?_
  refine aops_nil ?_
  change Awp _ _ _ _ _
  refine awp_cond rfl (fun hc2 => ?_) (fun hc2 => ?_)
  ·
    (try simp only [decide_eq_true_eq, decide_eq_false_iff_not, Bool.and_eq_true, Bool.or_eq_true, Bool.and_eq_false_iff, Bool.or_eq_false_iff, Bool.not_eq_true', Bool.not_eq_false', Bool.not_true, Bool.not_false, bif_and, bif_or, Bool.not_not, ne_eq, Decidable.not_not, not_true_eq_false, not_false_eq_true, Int.not_le, Int.not_lt] at hc2)
    have hz : followS l ev = (none, 0, (ckS l).2) := by unfold followS; rw [if_pos hc2]
    refine awp_seq ?_
    refine awp_region 4 mixed (by kernel_rfl) ?_
    refine rg_q (q_move (x := .d (.v _)) rfl) ?_
    first | refine rg_q (q_assign (x := .d (.pt _ _)) rfl) ?_ | refine rg_q (q_assign (x := .ref _ _) rfl) ?_ | refine rg_q (q_assign (x := .d (.v _)) rfl) ?_ | refine rg_q (q_assign (x := .d _) rfl) ?_
    refine rg_q (q_assign (x := .d (.v _)) rfl) ?_
    refine rg_q (q_assign (x := .d (.v _)) rfl) ?_
    refine rg_nil ?_
    refine aops_nil ?_
    change Awp _ _ _ _ _
    refine awp_ret ?_
    refine ⟨_, (.cons (.tmp (by first | exact .d _ | exact .rs rfl | exact .ref rfl | exact .tref rfl (.cons (.d _ rfl) (.cons (.rs rfl) .nil)))) (.cons (.tmp (by first | exact .d _ | exact .rs rfl | exact .ref rfl | exact .tref rfl (.cons (.d _ rfl) (.cons (.rs rfl) .nil)))) (.cons (.tmp (by first | exact .d _ | exact .rs rfl | exact .ref rfl | exact .tref rfl (.cons (.d _ rfl) (.cons (.rs rfl) .nil)))) .nil))), ?_⟩
    rw [hz]; rfl
  ·
    (try simp only [decide_eq_true_eq, decide_eq_false_iff_not, Bool.and_eq_true, Bool.or_eq_true, Bool.and_eq_false_iff, Bool.or_eq_false_iff, Bool.not_eq_true', Bool.not_eq_false', Bool.not_true, Bool.not_false, bif_and, bif_or, Bool.not_not, ne_eq, Decidable.not_not, not_true_eq_false, not_false_eq_true, Int.not_le, Int.not_lt] at hc2)
    refine awp_skip ?_
    change Awp _ _ _ _ _
    refine awp_seq ?_
    refine awp_seq ?_
    refine awp_region 3 mixed (by kernel_rfl) ?_
    first | refine rg_q (q_move (x := .d (.sl _ _)) rfl) ?_ | refine rg_q (q_move (x := .rs _) rfl) ?_ | refine rg_q (q_move (x := .d (.v _)) rfl) ?_
    first | refine rg_q (q_len isl48 rfl (by first | exact len_map _ _ | rfl)) ?_ | refine rg_q (q_len_rs isl48 rfl rfl) ?_ | refine rg_q (q_len_nil isl48 rfl) ?_
    refine rg_q (q_gtr rfl rfl) ?_
    refine rg_nil ?_
    refine aops_nil ?_
    change Awp _ _ _ _ _
    first | refine awp_len (t := 23) rfl (fun hl23 => ?_) | skip
    (try simp only [List.length_map] at hl23)
    refine awp_cond rfl (fun hc4 => ?_) (fun hc4 => ?_)
    ·
      (try simp only [decide_eq_true_eq, decide_eq_false_iff_not, Bool.and_eq_true, Bool.or_eq_true, Bool.and_eq_false_iff, Bool.or_eq_false_iff, Bool.not_eq_true', Bool.not_eq_false', Bool.not_true, Bool.not_false, bif_and, bif_or, Bool.not_not, ne_eq, Decidable.not_not, not_true_eq_false, not_false_eq_true, Int.not_le, Int.not_lt] at hc4)
      have hz : followS l ev = (none, 0, 8) := by unfold followS; rw [if_neg (by simpa using hc2), if_pos (by omega)]
      refine awp_seq ?_
      refine awp_region 3 mixed (by kernel_rfl) ?_
      first | refine rg_q (q_assign (x := .d (.pt _ _)) rfl) ?_ | refine rg_q (q_assign (x := .ref _ _) rfl) ?_ | refine rg_q (q_assign (x := .d (.v _)) rfl) ?_ | refine rg_q (q_assign (x := .d _) rfl) ?_
      refine rg_q (q_assign (x := .d (.v _)) rfl) ?_
      refine rg_q (q_assign (x := .d (.v _)) rfl) ?_
      refine rg_nil ?_
      refine aops_nil ?_
      change Awp _ _ _ _ _
      refine awp_ret ?_
      refine ⟨_, (.cons (.tmp (by first | exact .d _ | exact .rs rfl | exact .ref rfl | exact .tref rfl (.cons (.d _ rfl) (.cons (.rs rfl) .nil)))) (.cons (.tmp (by first | exact .d _ | exact .rs rfl | exact .ref rfl | exact .tref rfl (.cons (.d _ rfl) (.cons (.rs rfl) .nil)))) (.cons (.tmp (by first | exact .d _ | exact .rs rfl | exact .ref rfl | exact .tref rfl (.cons (.d _ rfl) (.cons (.rs rfl) .nil)))) .nil))), ?_⟩
      rw [hz]; rfl
    ·
      (try simp only [decide_eq_true_eq, decide_eq_false_iff_not, Bool.and_eq_true, Bool.or_eq_true, Bool.and_eq_false_iff, Bool.or_eq_false_iff, Bool.not_eq_true', Bool.not_eq_false', Bool.not_true, Bool.not_false, bif_and, bif_or, Bool.not_not, ne_eq, Decidable.not_not, not_true_eq_false, not_false_eq_true, Int.not_le, Int.not_lt] at hc4)
      have hz : followS l ev = followFrom l none (List.replicate l.length zeroL) 0 ev := by unfold followS; rw [if_neg (by simpa using hc2), if_neg (by omega)]
      have hr := ckS_right (l := l) hc2
      have hfew := hr.few
      have hpos := hr.pos
      refine awp_skip ?_
      change Awp _ _ _ _ _
      refine awp_seq ?_
      refine awp_region 1 mixed (by kernel_rfl) ?_
      first | refine rg_q (q_move (x := .d (.sl _ _)) rfl) ?_ | refine rg_q (q_move (x := .rs _) rfl) ?_ | refine rg_q (q_move (x := .d (.v _)) rfl) ?_
      refine rg_nil ?_
      refine aops_callL [9, 27] [] en53 (newBook_p l hfew) (.cons rfl .nil) rfl rfl rfl (by repeat (first | exact trivial | refine ⟨rfl, ?_⟩)) (by repeat (first | exact trivial | refine ⟨rfl, ?_⟩)) rfl ?_
      first | refine aops_q rfl (q_assign (x := .d (.pt _ _)) rfl) ?_ | refine aops_q rfl (q_assign (x := .ref _ _) rfl) ?_ | refine aops_q rfl (q_assign (x := .d (.v _)) rfl) ?_ | refine aops_q rfl (q_assign (x := .d _) rfl) ?_
      refine aops_nil ?_
      change Awp _ _ _ _ _
      refine awp_seq ?_
      refine awp_seq ?_
      refine awp_region 3 mixed (by kernel_rfl) ?_
      first | refine rg_q (q_move (x := .d (.sl _ _)) rfl) ?_ | refine rg_q (q_move (x := .rs _) rfl) ?_ | refine rg_q (q_move (x := .d (.v _)) rfl) ?_
      first | refine rg_q (q_len isl48 rfl (by first | exact len_map _ _ | rfl)) ?_ | refine rg_q (q_len_rs isl48 rfl rfl) ?_ | refine rg_q (q_len_nil isl48 rfl) ?_
      refine rg_q (q_move (x := .d (.v _)) rfl) ?_
      refine rg_nil ?_
      refine aops_nil ?_
      change Awp _ _ _ _ _
      first | refine awp_len (t := 28) rfl (fun hl28 => ?_) | skip
      (try simp only [List.length_map] at hl28)
      refine awp_block ?_
      refine awp_loopH [4, 5, 6, 10, 11, 12, 14, 30, 31, 32, 33, 34, 35, 36, 37, 38, 39, 40, 41, 42, 43, 44, 45, 46, 47, 48, 49, 50, 51, 52, 53, 54, 55, 56, 57, 58, 59, 60, 61, 62, 63, 64, 65, 66, 67, 68, 69, 70, 71, 72, 73, 74, 75, 76, 77, 78, 79, 80, 81, 82, 83, 84, 85, 86, 87, 88, 89, 90, 91, 92, 93, 94, 95, 96, 97, 98, 99, 100, 101, 102, 103, 104, 105, 106, 107, 108, 109, 110, 111, 27] [9, 27] (α := Nat × List Lst) (fun ⟨k, L⟩ => [(30, T.i (k : Int))]) (fun ⟨k, L⟩ => [(9, Site.tbox [.d (.sl 4 (l.map stepC)), .rs 27]), (27, Site.row 108 4 (L.map lastC))]) (fun ⟨k, L⟩ => k ≤ ev.length ∧ BookOk l L ∧ followFrom l none (List.replicate l.length zeroL) 0 ev = followFrom l (prevE ev k) L k (ev.drop k)) (fun ⟨k, L⟩ => ev.length - k) (0, List.replicate l.length zeroL) ⟨Nat.zero_le _, bookOk_new hfew, rfl⟩ ?_ ?_
      · exact le_head (ms := [9, 27]) (by repeat (first | exact Out.refl _ | exact Out.head rfl rfl | (refine Out.put ?_ rfl) | (refine Out.site ?_ rfl) | (refine Out.putn ?_) | (refine Out.headIn ?_ rfl rfl rfl) | (refine Out.called ?_ rfl rfl))) ⟨(by first | rfl | (simp; done)), trivial⟩ ⟨(by first | rfl | (simp; done)), (by first | rfl | (simp; done)), trivial⟩ rfl rfl rfl rfl
      ·
        intro ⟨k, L⟩ ⟨hk, hB, hf⟩
        refine awp_seq ?_
        refine awp_region 1 mixed (by kernel_rfl) ?_
        refine rg_q (q_lss rfl rfl) ?_
        refine rg_nil ?_
        refine aops_nil ?_
        change Awp _ _ _ _ _
        refine awp_seq ?_
        refine awp_cond rfl (fun hc8 => ?_) (fun hc8 => ?_)
        ·
          (try simp only [decide_eq_true_eq, decide_eq_false_iff_not, Bool.and_eq_true, Bool.or_eq_true, Bool.and_eq_false_iff, Bool.or_eq_false_iff, Bool.not_eq_true', Bool.not_eq_false', Bool.not_true, Bool.not_false, bif_and, bif_or, Bool.not_not, ne_eq, Decidable.not_not, not_true_eq_false, not_false_eq_true, Int.not_le, Int.not_lt] at hc8)
          have hlt : k < ev.length := by omega
          obtain ⟨x, hx⟩ : ∃ x, ev[k]? = some x := ⟨_, List.getElem?_eq_getElem hlt⟩
          have hd : followFrom l (prevE ev k) L k (ev.drop k) = if evBad l L (prevE ev k) x ≠ 0 then (none, (k : Int), evBad l L (prevE ev k) x) else followFrom l (prevE ev (k + 1)) (addS l L x) (k + 1) (ev.drop (k + 1)) := by
            have e : ev[k] = x := by rw [List.getElem?_eq_getElem hlt] at hx; exact Option.some.inj hx
            rw [List.drop_eq_getElem_cons hlt, show prevE ev (k + 1) = some x.minute from by simp [prevE, hx], e]; rfl
          obtain ⟨y, hp⟩ : ∃ y, 0 < k → ev[k - 1]? = some y := by
            by_cases h0 : 0 < k
            · exact ⟨ev[k - 1], fun _ => List.getElem?_eq_getElem (by omega)⟩
            · exact ⟨⟨0, 0, 0⟩, fun h => absurd h h0⟩
          have hpo : 0 < k → prevE ev k = some y.minute := fun h0 => by
            obtain ⟨m, rfl⟩ : ∃ m, k = m + 1 := ⟨k - 1, by omega⟩
            have := hp h0
            simp only [Nat.add_sub_cancel] at this
            simp [prevE, this]
          have hwl := hB.w.len
          refine awp_skip ?_
          change Awp _ _ _ _ _
          refine awp_seq ?_
          refine awp_block ?_
          refine awp_seq ?_
          refine awp_region 3 mixed (by kernel_rfl) ?_
          refine rg_q (q_move (x := .d (.v _)) rfl) ?_
          first | refine rg_q (q_indexAddr sl48 rfl rfl (by omega) (map_at (by omega) hx)) ?_ | refine rg_q (q_indexAddr sl48 rfl rfl (by omega) (map_at (by omega) hn)) ?_ | refine rg_q (q_indexAddr sl48 rfl rfl (by omega) (map_at (by omega) hs0)) ?_ | refine rg_q (q_indexAddr_rs sl48 rfl rfl rfl (by omega) (by omega)) ?_
          first | refine rg_q (q_loadA (ds := [_, _, _]) sz23 rfl rfl rfl) ?_ | refine rg_q (q_load_refA (ds := [_, _, _]) sz23 rfl rfl rfl rfl) ?_
          refine rg_nil ?_
          refine aops_alloc zr23 rfl rfl rfl ?_
          refine aops_q rfl (q_assign (x := .d (.v _)) rfl) ?_
          first | refine aops_store sz23 rfl rfl (by first | exact .inl rfl | exact .inr ⟨_, rfl⟩) rfl rfl (by first | decide | simp; done | exact Nat.le_of_ble_eq_true rfl) rfl ?_ | refine aops_storeT (z := .rs _) sz23 rfl rfl rfl rfl (by first | decide | simp) rfl ?_ | refine aops_storeT (z := .d _) sz23 rfl rfl rfl rfl (by first | decide | simp) rfl ?_ | refine aops_storeTA sz23 rfl rfl (by first | exact .inl rfl | exact .inr ⟨_, rfl⟩) rfl rfl (by first | decide | simp) rfl ?_
          refine aops_nil ?_
          change Awp _ _ _ _ _
          refine awp_seq ?_
          refine awp_block ?_
          refine awp_seq ?_
          refine awp_region 5 mixed (by kernel_rfl) ?_
          first | refine rg_q (q_fieldAddr fld23_0 rfl) ?_ | refine rg_q (q_fieldAddr_ref fld23_0 rfl) ?_
          first | refine rg_q (q_load sz3 rfl rfl) ?_ | refine rg_q (q_load_ref sz3 rfl rfl rfl) ?_ | refine rg_q (q_load_tb (x := .d _) sz3 rfl rfl rfl) ?_ | refine rg_q (q_load_tb (x := .rs _) sz3 rfl rfl rfl) ?_
          first | refine rg_q (q_call en32 (.cons rfl (.cons rfl (.cons rfl .nil))) rfl (within_p _ _ _)) ?_ | refine rg_q (q_callF en32 (.cons (by first | exact .d _ | exact .rs rfl | exact .ref rfl | exact .nil _ | exact .tref rfl (by repeat (first | exact .nil | refine .cons (.d _ rfl) ?_ | refine .cons (.rs rfl) ?_))) (.cons (by first | exact .d _ | exact .rs rfl | exact .ref rfl | exact .nil _ | exact .tref rfl (by repeat (first | exact .nil | refine .cons (.d _ rfl) ?_ | refine .cons (.rs rfl) ?_))) (.cons (by first | exact .d _ | exact .rs rfl | exact .ref rfl | exact .nil _ | exact .tref rfl (by repeat (first | exact .nil | refine .cons (.d _ rfl) ?_ | refine .cons (.rs rfl) ?_))) .nil))) rfl (within_p _ _ _) (by first | exact .v _ | exact D.Flat.tupF (by repeat first | exact trivial | refine ⟨.v _, ?_⟩) | exact D.Flat.aggF (by repeat first | exact trivial | refine ⟨.v _, ?_⟩))) ?_
          refine rg_q (q_not rfl) ?_
          refine rg_q (q_assign (x := .d (.v _)) rfl) ?_
          refine rg_nil ?_
          refine aops_nil ?_
          change Awp _ _ _ _ _
          refine awp_cond rfl (fun hc10 => ?_) (fun hc10 => ?_)
          ·
            (try simp only [decide_eq_true_eq, decide_eq_false_iff_not, Bool.and_eq_true, Bool.or_eq_true, Bool.and_eq_false_iff, Bool.or_eq_false_iff, Bool.not_eq_true', Bool.not_eq_false', Bool.not_true, Bool.not_false, bif_and, bif_or, Bool.not_not, ne_eq, Decidable.not_not, not_true_eq_false, not_false_eq_true, Int.not_le, Int.not_lt] at hc10)
            have hb : evBad l L (prevE ev k) x = 2 := by unfold evBad; rw [if_pos hc10]
            refine awp_seq ?_
            refine awp_region 4 mixed (by kernel_rfl) ?_
            refine rg_q (q_move (x := .d (.v _)) rfl) ?_
            first | refine rg_q (q_assign (x := .d (.pt _ _)) rfl) ?_ | refine rg_q (q_assign (x := .ref _ _) rfl) ?_ | refine rg_q (q_assign (x := .d (.v _)) rfl) ?_ | refine rg_q (q_assign (x := .d _) rfl) ?_
            refine rg_q (q_assign (x := .d (.v _)) rfl) ?_
            refine rg_q (q_assign (x := .d (.v _)) rfl) ?_
            refine rg_nil ?_
            refine aops_nil ?_
            change Awp _ _ _ _ _
            refine awp_ret ?_
            refine ⟨_, (.cons (.tmp (by first | exact .d _ | exact .rs rfl | exact .ref rfl | exact .tref rfl (.cons (.d _ rfl) (.cons (.rs rfl) .nil)))) (.cons (.tmp (by first | exact .d _ | exact .rs rfl | exact .ref rfl | exact .tref rfl (.cons (.d _ rfl) (.cons (.rs rfl) .nil)))) (.cons (.tmp (by first | exact .d _ | exact .rs rfl | exact .ref rfl | exact .tref rfl (.cons (.d _ rfl) (.cons (.rs rfl) .nil)))) .nil))), ?_⟩
            rw [hz, hf, hd, if_pos (by rw [hb]; simp), hb]; rfl
          ·
            (try simp only [decide_eq_true_eq, decide_eq_false_iff_not, Bool.and_eq_true, Bool.or_eq_true, Bool.and_eq_false_iff, Bool.or_eq_false_iff, Bool.not_eq_true', Bool.not_eq_false', Bool.not_true, Bool.not_false, bif_and, bif_or, Bool.not_not, ne_eq, Decidable.not_not, not_true_eq_false, not_false_eq_true, Int.not_le, Int.not_lt] at hc10)
            refine awp_seq ?_
            refine awp_region 8 mixed (by kernel_rfl) ?_
            first | refine rg_q (q_fieldAddr fld23_1 rfl) ?_ | refine rg_q (q_fieldAddr_ref fld23_1 rfl) ?_
            first | refine rg_q (q_load sz3 rfl rfl) ?_ | refine rg_q (q_load_ref sz3 rfl rfl rfl) ?_ | refine rg_q (q_load_tb (x := .d _) sz3 rfl rfl rfl) ?_ | refine rg_q (q_load_tb (x := .rs _) sz3 rfl rfl rfl) ?_
            first | refine rg_q (q_move (x := .d (.sl _ _)) rfl) ?_ | refine rg_q (q_move (x := .rs _) rfl) ?_ | refine rg_q (q_move (x := .d (.v _)) rfl) ?_
            first | refine rg_q (q_len isl46 rfl (by first | exact len_map _ _ | rfl)) ?_ | refine rg_q (q_len_rs isl46 rfl rfl) ?_ | refine rg_q (q_len_nil isl46 rfl) ?_
            refine rg_q (q_sub rfl rfl (In64.mk (by omega) (by omega))) ?_
            first | refine rg_q (q_call en32 (.cons rfl (.cons rfl (.cons rfl .nil))) rfl (within_p _ _ _)) ?_ | refine rg_q (q_callF en32 (.cons (by first | exact .d _ | exact .rs rfl | exact .ref rfl | exact .nil _ | exact .tref rfl (by repeat (first | exact .nil | refine .cons (.d _ rfl) ?_ | refine .cons (.rs rfl) ?_))) (.cons (by first | exact .d _ | exact .rs rfl | exact .ref rfl | exact .nil _ | exact .tref rfl (by repeat (first | exact .nil | refine .cons (.d _ rfl) ?_ | refine .cons (.rs rfl) ?_))) (.cons (by first | exact .d _ | exact .rs rfl | exact .ref rfl | exact .nil _ | exact .tref rfl (by repeat (first | exact .nil | refine .cons (.d _ rfl) ?_ | refine .cons (.rs rfl) ?_))) .nil))) rfl (within_p _ _ _) (by first | exact .v _ | exact D.Flat.tupF (by repeat first | exact trivial | refine ⟨.v _, ?_⟩) | exact D.Flat.aggF (by repeat first | exact trivial | refine ⟨.v _, ?_⟩))) ?_
            refine rg_q (q_not rfl) ?_
            refine rg_q (q_assign (x := .d (.v _)) rfl) ?_
            refine rg_nil ?_
            refine aops_nil ?_
            change Awp _ _ _ _ _
            first | refine awp_len (t := 44) rfl (fun hl44 => ?_) | skip
            (try simp only [List.length_map] at hl44)
            refine awp_cond rfl (fun hc12 => ?_) (fun hc12 => ?_)
            ·
              (try simp only [decide_eq_true_eq, decide_eq_false_iff_not, Bool.and_eq_true, Bool.or_eq_true, Bool.and_eq_false_iff, Bool.or_eq_false_iff, Bool.not_eq_true', Bool.not_eq_false', Bool.not_true, Bool.not_false, bif_and, bif_or, Bool.not_not, ne_eq, Decidable.not_not, not_true_eq_false, not_false_eq_true, Int.not_le, Int.not_lt] at hc12)
              have hb : evBad l L (prevE ev k) x = 6 := by unfold evBad; rw [if_neg (by simpa using hc10), if_pos hc12]
              refine awp_seq ?_
              refine awp_region 4 mixed (by kernel_rfl) ?_
              refine rg_q (q_move (x := .d (.v _)) rfl) ?_
              first | refine rg_q (q_assign (x := .d (.pt _ _)) rfl) ?_ | refine rg_q (q_assign (x := .ref _ _) rfl) ?_ | refine rg_q (q_assign (x := .d (.v _)) rfl) ?_ | refine rg_q (q_assign (x := .d _) rfl) ?_
              refine rg_q (q_assign (x := .d (.v _)) rfl) ?_
              refine rg_q (q_assign (x := .d (.v _)) rfl) ?_
              refine rg_nil ?_
              refine aops_nil ?_
              change Awp _ _ _ _ _
              refine awp_ret ?_
              refine ⟨_, (.cons (.tmp (by first | exact .d _ | exact .rs rfl | exact .ref rfl | exact .tref rfl (.cons (.d _ rfl) (.cons (.rs rfl) .nil)))) (.cons (.tmp (by first | exact .d _ | exact .rs rfl | exact .ref rfl | exact .tref rfl (.cons (.d _ rfl) (.cons (.rs rfl) .nil)))) (.cons (.tmp (by first | exact .d _ | exact .rs rfl | exact .ref rfl | exact .tref rfl (.cons (.d _ rfl) (.cons (.rs rfl) .nil)))) .nil))), ?_⟩
              rw [hz, hf, hd, if_pos (by rw [hb]; simp), hb]; rfl
            ·
              (try simp only [decide_eq_true_eq, decide_eq_false_iff_not, Bool.and_eq_true, Bool.or_eq_true, Bool.and_eq_false_iff, Bool.or_eq_false_iff, Bool.not_eq_true', Bool.not_eq_false', Bool.not_true, Bool.not_false, bif_and, bif_or, Bool.not_not, ne_eq, Decidable.not_not, not_true_eq_false, not_false_eq_true, Int.not_le, Int.not_lt] at hc12)
              refine awp_seq ?_
              refine awp_region 5 mixed (by kernel_rfl) ?_
              first | refine rg_q (q_fieldAddr fld23_2 rfl) ?_ | refine rg_q (q_fieldAddr_ref fld23_2 rfl) ?_
              first | refine rg_q (q_load sz3 rfl rfl) ?_ | refine rg_q (q_load_ref sz3 rfl rfl rfl) ?_ | refine rg_q (q_load_tb (x := .d _) sz3 rfl rfl rfl) ?_ | refine rg_q (q_load_tb (x := .rs _) sz3 rfl rfl rfl) ?_
              first | refine rg_q (q_call en54 (.cons rfl (.cons rfl .nil)) rfl (small_p _ _ (by omega) (by omega))) ?_ | refine rg_q (q_callF en54 (.cons (by first | exact .d _ | exact .rs rfl | exact .ref rfl | exact .nil _ | exact .tref rfl (by repeat (first | exact .nil | refine .cons (.d _ rfl) ?_ | refine .cons (.rs rfl) ?_))) (.cons (by first | exact .d _ | exact .rs rfl | exact .ref rfl | exact .nil _ | exact .tref rfl (by repeat (first | exact .nil | refine .cons (.d _ rfl) ?_ | refine .cons (.rs rfl) ?_))) .nil)) rfl (small_p _ _ (by omega) (by omega)) (by first | exact .v _ | exact D.Flat.tupF (by repeat first | exact trivial | refine ⟨.v _, ?_⟩) | exact D.Flat.aggF (by repeat first | exact trivial | refine ⟨.v _, ?_⟩))) ?_
              refine rg_q (q_not rfl) ?_
              refine rg_q (q_assign (x := .d (.v _)) rfl) ?_
              refine rg_nil ?_
              refine aops_nil ?_
              change Awp _ _ _ _ _
              refine awp_cond rfl (fun hc14 => ?_) (fun hc14 => ?_)
              ·
                (try simp only [decide_eq_true_eq, decide_eq_false_iff_not, Bool.and_eq_true, Bool.or_eq_true, Bool.and_eq_false_iff, Bool.or_eq_false_iff, Bool.not_eq_true', Bool.not_eq_false', Bool.not_true, Bool.not_false, bif_and, bif_or, Bool.not_not, ne_eq, Decidable.not_not, not_true_eq_false, not_false_eq_true, Int.not_le, Int.not_lt] at hc14)
                have hb : evBad l L (prevE ev k) x = 2 := by unfold evBad; rw [if_neg (by simpa using hc10), if_neg (by simpa using hc12), if_pos hc14]
                refine awp_seq ?_
                refine awp_region 4 mixed (by kernel_rfl) ?_
                refine rg_q (q_move (x := .d (.v _)) rfl) ?_
                first | refine rg_q (q_assign (x := .d (.pt _ _)) rfl) ?_ | refine rg_q (q_assign (x := .ref _ _) rfl) ?_ | refine rg_q (q_assign (x := .d (.v _)) rfl) ?_ | refine rg_q (q_assign (x := .d _) rfl) ?_
                refine rg_q (q_assign (x := .d (.v _)) rfl) ?_
                refine rg_q (q_assign (x := .d (.v _)) rfl) ?_
                refine rg_nil ?_
                refine aops_nil ?_
                change Awp _ _ _ _ _
                refine awp_ret ?_
                refine ⟨_, (.cons (.tmp (by first | exact .d _ | exact .rs rfl | exact .ref rfl | exact .tref rfl (.cons (.d _ rfl) (.cons (.rs rfl) .nil)))) (.cons (.tmp (by first | exact .d _ | exact .rs rfl | exact .ref rfl | exact .tref rfl (.cons (.d _ rfl) (.cons (.rs rfl) .nil)))) (.cons (.tmp (by first | exact .d _ | exact .rs rfl | exact .ref rfl | exact .tref rfl (.cons (.d _ rfl) (.cons (.rs rfl) .nil)))) .nil))), ?_⟩
                rw [hz, hf, hd, if_pos (by rw [hb]; simp), hb]; rfl
              ·
                (try simp only [decide_eq_true_eq, decide_eq_false_iff_not, Bool.and_eq_true, Bool.or_eq_true, Bool.and_eq_false_iff, Bool.or_eq_false_iff, Bool.not_eq_true', Bool.not_eq_false', Bool.not_true, Bool.not_false, bif_and, bif_or, Bool.not_not, ne_eq, Decidable.not_not, not_true_eq_false, not_false_eq_true, Int.not_le, Int.not_lt] at hc14)
                refine awp_seq ?_
                refine awp_region 14 mixed (by kernel_rfl) ?_
                refine rg_q (q_move (x := .d (.v _)) rfl) ?_
                refine rg_q (q_gtr rfl rfl) ?_
                refine rg_q (q_move (x := .d (.v _)) rfl) ?_
                first | refine rg_g rfl rfl (fun hG => (q_fieldAddr fld23_0 rfl)) ?_ | refine rg_g rfl rfl (fun hG => (q_fieldAddr_ref fld23_0 rfl)) ?_
                first | refine rg_g rfl rfl (fun hG => (q_load sz3 rfl rfl)) ?_ | refine rg_g rfl rfl (fun hG => (q_load_ref sz3 rfl rfl rfl)) ?_ | refine rg_g rfl rfl (fun hG => (q_load_tb (x := .d _) sz3 rfl rfl rfl)) ?_ | refine rg_g rfl rfl (fun hG => (q_load_tb (x := .rs _) sz3 rfl rfl rfl)) ?_
                first | refine rg_g rfl rfl (fun hG => (q_move (x := .d (.sl _ _)) rfl)) ?_ | refine rg_g rfl rfl (fun hG => (q_move (x := .rs _) rfl)) ?_ | refine rg_g rfl rfl (fun hG => (q_move (x := .d (.v _)) rfl)) ?_
                refine rg_g rfl rfl (fun hG => (q_move (x := .d (.v _)) rfl)) ?_
                refine rg_g rfl rfl (fun hG => (q_sub rfl rfl (In64.mk (by (have hg0 := T.bool_inj (a := _) hG.1; (try simp only [decide_eq_true_eq, decide_eq_false_iff_not, Bool.and_eq_true, Bool.or_eq_true, Bool.and_eq_false_iff, Bool.or_eq_false_iff, Bool.not_eq_true', Bool.not_eq_false', Bool.not_true, Bool.not_false, bif_and, bif_or, Bool.not_not, ne_eq, Decidable.not_not, not_true_eq_false, not_false_eq_true, Int.not_le, Int.not_lt] at hg0); omega)) (by (have hg0 := T.bool_inj (a := _) hG.1; (try simp only [decide_eq_true_eq, decide_eq_false_iff_not, Bool.and_eq_true, Bool.or_eq_true, Bool.and_eq_false_iff, Bool.or_eq_false_iff, Bool.not_eq_true', Bool.not_eq_false', Bool.not_true, Bool.not_false, bif_and, bif_or, Bool.not_not, ne_eq, Decidable.not_not, not_true_eq_false, not_false_eq_true, Int.not_le, Int.not_lt] at hg0); omega))))) ?_
                first | refine rg_g rfl rfl (fun hG => (q_indexAddr sl48 rfl rfl (by (have hg0 := T.bool_inj (a := _) hG.1; (try simp only [decide_eq_true_eq, decide_eq_false_iff_not, Bool.and_eq_true, Bool.or_eq_true, Bool.and_eq_false_iff, Bool.or_eq_false_iff, Bool.not_eq_true', Bool.not_eq_false', Bool.not_true, Bool.not_false, bif_and, bif_or, Bool.not_not, ne_eq, Decidable.not_not, not_true_eq_false, not_false_eq_true, Int.not_le, Int.not_lt] at hg0); omega)) (map_at (k := k - 1) (by (have hg0 := T.bool_inj (a := _) hG.1; (try simp only [decide_eq_true_eq, decide_eq_false_iff_not, Bool.and_eq_true, Bool.or_eq_true, Bool.and_eq_false_iff, Bool.or_eq_false_iff, Bool.not_eq_true', Bool.not_eq_false', Bool.not_true, Bool.not_false, bif_and, bif_or, Bool.not_not, ne_eq, Decidable.not_not, not_true_eq_false, not_false_eq_true, Int.not_le, Int.not_lt] at hg0); omega)) (hp (by (have hg0 := T.bool_inj (a := _) hG.1; (try simp only [decide_eq_true_eq, decide_eq_false_iff_not, Bool.and_eq_true, Bool.or_eq_true, Bool.and_eq_false_iff, Bool.or_eq_false_iff, Bool.not_eq_true', Bool.not_eq_false', Bool.not_true, Bool.not_false, bif_and, bif_or, Bool.not_not, ne_eq, Decidable.not_not, not_true_eq_false, not_false_eq_true, Int.not_le, Int.not_lt] at hg0); omega)))))) ?_ | refine rg_g rfl rfl (fun hG => (q_indexAddr_rs sl48 rfl rfl rfl (by (have hg0 := T.bool_inj (a := _) hG.1; (try simp only [decide_eq_true_eq, decide_eq_false_iff_not, Bool.and_eq_true, Bool.or_eq_true, Bool.and_eq_false_iff, Bool.or_eq_false_iff, Bool.not_eq_true', Bool.not_eq_false', Bool.not_true, Bool.not_false, bif_and, bif_or, Bool.not_not, ne_eq, Decidable.not_not, not_true_eq_false, not_false_eq_true, Int.not_le, Int.not_lt] at hg0); omega)) (by (have hg0 := T.bool_inj (a := _) hG.1; (try simp only [decide_eq_true_eq, decide_eq_false_iff_not, Bool.and_eq_true, Bool.or_eq_true, Bool.and_eq_false_iff, Bool.or_eq_false_iff, Bool.not_eq_true', Bool.not_eq_false', Bool.not_true, Bool.not_false, bif_and, bif_or, Bool.not_not, ne_eq, Decidable.not_not, not_true_eq_false, not_false_eq_true, Int.not_le, Int.not_lt] at hg0); omega)))) ?_
                first | refine rg_g rfl rfl (fun hG => (q_fieldAddr fld23_0 rfl)) ?_ | refine rg_g rfl rfl (fun hG => (q_fieldAddr_ref fld23_0 rfl)) ?_
                first | refine rg_g rfl rfl (fun hG => (q_load sz3 rfl rfl)) ?_ | refine rg_g rfl rfl (fun hG => (q_load_ref sz3 rfl rfl rfl)) ?_ | refine rg_g rfl rfl (fun hG => (q_load_tb (x := .d _) sz3 rfl rfl rfl)) ?_ | refine rg_g rfl rfl (fun hG => (q_load_tb (x := .rs _) sz3 rfl rfl rfl)) ?_
                refine rg_g rfl rfl (fun hG => (q_lss rfl rfl)) ?_
                first | refine rg_pick rfl rfl rfl rfl rfl rfl ?_ | refine rg_q (q_pick rfl rfl rfl) ?_
                refine rg_q (q_assign (x := .d (.v _)) rfl) ?_
                refine rg_nil ?_
                refine aops_nil ?_
                change Awp _ _ _ _ _
                refine awp_cond rfl (fun hc16 => ?_) (fun hc16 => ?_)
                ·
                  (try simp only [decide_eq_true_eq, decide_eq_false_iff_not, Bool.and_eq_true, Bool.or_eq_true, Bool.and_eq_false_iff, Bool.or_eq_false_iff, Bool.not_eq_true', Bool.not_eq_false', Bool.not_true, Bool.not_false, bif_and, bif_or, Bool.not_not, ne_eq, Decidable.not_not, not_true_eq_false, not_false_eq_true, Int.not_le, Int.not_lt] at hc16)
                  have ho : lessP (prevE ev k) x.minute = true := by rw [hpo (by omega)]; simp [lessP]; omega
                  have hb : evBad l L (prevE ev k) x = 9 := by unfold evBad; rw [if_neg (by simpa using hc10), if_neg (by simpa using hc12), if_neg (by simpa using hc14), if_pos ho]
                  refine awp_seq ?_
                  refine awp_region 4 mixed (by kernel_rfl) ?_
                  refine rg_q (q_move (x := .d (.v _)) rfl) ?_
                  first | refine rg_q (q_assign (x := .d (.pt _ _)) rfl) ?_ | refine rg_q (q_assign (x := .ref _ _) rfl) ?_ | refine rg_q (q_assign (x := .d (.v _)) rfl) ?_ | refine rg_q (q_assign (x := .d _) rfl) ?_
                  refine rg_q (q_assign (x := .d (.v _)) rfl) ?_
                  refine rg_q (q_assign (x := .d (.v _)) rfl) ?_
                  refine rg_nil ?_
                  refine aops_nil ?_
                  change Awp _ _ _ _ _
                  refine awp_ret ?_
                  refine ⟨_, (.cons (.tmp (by first | exact .d _ | exact .rs rfl | exact .ref rfl | exact .tref rfl (.cons (.d _ rfl) (.cons (.rs rfl) .nil)))) (.cons (.tmp (by first | exact .d _ | exact .rs rfl | exact .ref rfl | exact .tref rfl (.cons (.d _ rfl) (.cons (.rs rfl) .nil)))) (.cons (.tmp (by first | exact .d _ | exact .rs rfl | exact .ref rfl | exact .tref rfl (.cons (.d _ rfl) (.cons (.rs rfl) .nil)))) .nil))), ?_⟩
                  rw [hz, hf, hd, if_pos (by rw [hb]; simp), hb]; rfl
                ·
                  (try simp only [decide_eq_true_eq, decide_eq_false_iff_not, Bool.and_eq_true, Bool.or_eq_true, Bool.and_eq_false_iff, Bool.or_eq_false_iff, Bool.not_eq_true', Bool.not_eq_false', Bool.not_true, Bool.not_false, bif_and, bif_or, Bool.not_not, ne_eq, Decidable.not_not, not_true_eq_false, not_false_eq_true, Int.not_le, Int.not_lt] at hc16)
                  have ho : ¬ lessP (prevE ev k) x.minute = true := by
                    by_cases h0 : 0 < k
                    · rw [hpo h0]; simp [lessP]; omega
                    · have : k = 0 := by omega
                      subst this; simp [prevE, lessP]
                  have hbe : evBad l L (prevE ev k) x = if x.step ≠ -1 ∧ ((l.getD x.step.toNat nilS).needs.all fun n => validS l (addS l L ⟨x.minute, -1, x.warmth⟩) n.toNat x.minute) = false then 20 else 0 := by
                    unfold evBad; rw [if_neg (by simpa using hc10), if_neg (by simpa using hc12), if_neg (by simpa using hc14), if_neg ho]
                  have hxo : EvOk x := by
                    simp [inR] at hc10 hc14
                    exact ⟨by omega, by omega, by omega, by omega⟩
                  obtain ⟨x1, x2, x3, x4⟩ := hxo
                  simp [inR] at hc12
                  refine awp_skip ?_
                  change Awp _ _ _ _ _
                  refine awp_seq ?_
                  refine awp_seq ?_
                  refine awp_region 3 mixed (by kernel_rfl) ?_
                  first | refine rg_q (q_fieldAddr fld23_1 rfl) ?_ | refine rg_q (q_fieldAddr_ref fld23_1 rfl) ?_
                  first | refine rg_q (q_load sz3 rfl rfl) ?_ | refine rg_q (q_load_ref sz3 rfl rfl rfl) ?_ | refine rg_q (q_load_tb (x := .d _) sz3 rfl rfl rfl) ?_ | refine rg_q (q_load_tb (x := .rs _) sz3 rfl rfl rfl) ?_
                  refine rg_q (q_neq rfl rfl) ?_
                  refine rg_nil ?_
                  refine aops_nil ?_
                  change Awp _ _ _ _ _
                  refine awp_cond rfl (fun hc18 => ?_) (fun hc18 => ?_)
                  ·
                    (try simp only [decide_eq_true_eq, decide_eq_false_iff_not, Bool.and_eq_true, Bool.or_eq_true, Bool.and_eq_false_iff, Bool.or_eq_false_iff, Bool.not_eq_true', Bool.not_eq_false', Bool.not_true, Bool.not_false, bif_and, bif_or, Bool.not_not, ne_eq, Decidable.not_not, not_true_eq_false, not_false_eq_true, Int.not_le, Int.not_lt] at hc18)
                    obtain ⟨m, hst⟩ : ∃ m : Nat, x.step = (m : Int) := ⟨x.step.toNat, by omega⟩
                    obtain ⟨s, hs0⟩ : ∃ s, l[m]? = some s := ⟨_, List.getElem?_eq_getElem (by omega)⟩
                    have hse := (hr.each m s hs0).2.2.2.2
                    have hBw := bookOk_add (x := ⟨x.minute, -1, x.warmth⟩) hB ⟨x1, x2, x3, x4⟩
                    have hbe2 : evBad l L (prevE ev k) x = if (s.needs.all fun n => validS l (addS l L ⟨x.minute, -1, x.warmth⟩) n.toNat x.minute) = false then 20 else 0 := by
                      rw [hbe, hst, show ((m : Int)).toNat = m from rfl, getD_at hs0]
                      simp only [show ((m : Int) ≠ -1) from by omega, ne_eq, not_false_eq_true, true_and]
                    refine awp_seq ?_
                    refine awp_region 5 mixed (by kernel_rfl) ?_
                    first | refine rg_q (q_move (x := .d (.sl _ _)) rfl) ?_ | refine rg_q (q_move (x := .rs _) rfl) ?_ | refine rg_q (q_move (x := .d (.v _)) rfl) ?_
                    first | refine rg_q (q_move (x := .d (.pt _ _)) rfl) ?_ | refine rg_q (q_move (x := .ref _ _) rfl) ?_ | refine rg_q (q_move (x := .d (.v _)) rfl) ?_ | refine rg_q (q_move (x := .d _) rfl) ?_
                    first | refine rg_q (q_nilCheck rfl) ?_ | refine rg_q (q_nilCheck_ref rfl) ?_
                    first | refine rg_q (q_fieldAddr fld110_1 rfl) ?_ | refine rg_q (q_fieldAddr_ref fld110_1 rfl) ?_
                    first | refine rg_q (q_load sz105 rfl rfl) ?_ | refine rg_q (q_load_ref sz105 rfl rfl rfl) ?_ | refine rg_q (q_load_tb (x := .d _) sz105 rfl rfl rfl) ?_ | refine rg_q (q_load_tb (x := .rs _) sz105 rfl rfl rfl) ?_
                    refine rg_nil ?_
                    refine aops_callN [79] en55 (clone_p L (by omega) (by omega)) rfl (.cons (by first | exact .d _ | exact .rs rfl | exact .ref rfl | exact .nil _ | exact .tref rfl (by repeat (first | exact .nil | refine .cons (.d _ rfl) ?_ | refine .cons (.rs rfl) ?_))) .nil) rfl (newS.none rfl rfl) rfl (fun x hx => by rcases List.mem_singleton.1 hx with rfl; exact flat_row lastC 163 4 L lastC_flat) trivial ?_
                    refine aops_buildbox (cs := [_, _]) pl110 zr110 rfl (by first | exact .one rfl rfl (by first | exact .one rfl rfl .nil | exact .agg rfl .nil) | exact .agg rfl (by first | exact .one rfl rfl .nil | exact .agg rfl .nil)) (by exact ⟨⟨rfl, by decide⟩, ⟨rfl, by decide⟩, trivial⟩) (by rfl) rfl rfl rfl ?_
                    first | refine aops_q rfl (q_assign (x := .d (.pt _ _)) rfl) ?_ | refine aops_q rfl (q_assign (x := .ref _ _) rfl) ?_ | refine aops_q rfl (q_assign (x := .d (.v _)) rfl) ?_ | refine aops_q rfl (q_assign (x := .d _) rfl) ?_
                    refine aops_nil ?_
                    change Awp _ _ _ _ _
                    refine awp_seq ?_
                    refine awp_region 6 mixed (by kernel_rfl) ?_
                    first | refine rg_q (q_move (x := .d (.pt _ _)) rfl) ?_ | refine rg_q (q_move (x := .ref _ _) rfl) ?_ | refine rg_q (q_move (x := .d (.v _)) rfl) ?_ | refine rg_q (q_move (x := .d _) rfl) ?_
                    first | refine rg_q (q_fieldAddr fld23_0 rfl) ?_ | refine rg_q (q_fieldAddr_ref fld23_0 rfl) ?_
                    first | refine rg_q (q_load sz3 rfl rfl) ?_ | refine rg_q (q_load_ref sz3 rfl rfl rfl) ?_ | refine rg_q (q_load_tb (x := .d _) sz3 rfl rfl rfl) ?_ | refine rg_q (q_load_tb (x := .rs _) sz3 rfl rfl rfl) ?_
                    first | refine rg_q (q_fieldAddr fld23_2 rfl) ?_ | refine rg_q (q_fieldAddr_ref fld23_2 rfl) ?_
                    first | refine rg_q (q_load sz3 rfl rfl) ?_ | refine rg_q (q_load_ref sz3 rfl rfl rfl) ?_ | refine rg_q (q_load_tb (x := .d _) sz3 rfl rfl rfl) ?_ | refine rg_q (q_load_tb (x := .rs _) sz3 rfl rfl rfl) ?_
                    refine rg_q (q_build (cs := [_, _, _]) pl23 zr23 rfl (.cons rfl (by first | exact .inl rfl | exact .inr ⟨_, rfl⟩) (.cons rfl (by first | exact .inl rfl | exact .inr ⟨_, rfl⟩) (.cons rfl (by first | exact .inl rfl | exact .inr ⟨_, rfl⟩) .nil))) ⟨⟨rfl, by decide⟩, ⟨rfl, by decide⟩, ⟨rfl, by decide⟩, trivial⟩ rfl) ?_
                    refine rg_nil ?_
                    refine aops_callL [81, 79] [79] en56 (add_p l L ⟨x.minute, -1, x.warmth⟩ hB.w ⟨x3, x4⟩) (.cons rfl (.cons rfl .nil)) rfl rfl rfl (by repeat (first | exact trivial | refine ⟨rfl, ?_⟩)) (by repeat (first | exact trivial | refine ⟨rfl, ?_⟩)) rfl ?_
                    refine aops_nil ?_
                    change Awp _ _ _ _ _
                    refine awp_seq ?_
                    refine awp_region 8 mixed (by kernel_rfl) ?_
                    first | refine rg_q (q_move (x := .d (.sl _ _)) rfl) ?_ | refine rg_q (q_move (x := .rs _) rfl) ?_ | refine rg_q (q_move (x := .d (.v _)) rfl) ?_
                    first | refine rg_q (q_fieldAddr fld23_1 rfl) ?_ | refine rg_q (q_fieldAddr_ref fld23_1 rfl) ?_
                    first | refine rg_q (q_load sz3 rfl rfl) ?_ | refine rg_q (q_load_ref sz3 rfl rfl rfl) ?_ | refine rg_q (q_load_tb (x := .d _) sz3 rfl rfl rfl) ?_ | refine rg_q (q_load_tb (x := .rs _) sz3 rfl rfl rfl) ?_
                    first | refine rg_q (q_indexAddr sl46 rfl rfl (by omega) (map_at (by omega) hx)) ?_ | refine rg_q (q_indexAddr sl46 rfl rfl (by omega) (map_at (by omega) hn)) ?_ | refine rg_q (q_indexAddr sl46 rfl rfl (by omega) (map_at (by omega) hs0)) ?_ | refine rg_q (q_indexAddr_rs sl46 rfl rfl rfl (by omega) (by omega)) ?_
                    first | refine rg_q (q_fieldAddr fld87_3 rfl) ?_ | refine rg_q (q_fieldAddr_ref fld87_3 rfl) ?_
                    first | refine rg_q (q_load sz50 rfl rfl) ?_ | refine rg_q (q_load_ref sz50 rfl rfl rfl) ?_ | refine rg_q (q_load_tb (x := .d _) sz50 rfl rfl rfl) ?_ | refine rg_q (q_load_tb (x := .rs _) sz50 rfl rfl rfl) ?_
                    first | refine rg_q (q_len isl50 rfl (by first | exact len_map _ _ | rfl)) ?_ | refine rg_q (q_len_rs isl50 rfl rfl) ?_ | refine rg_q (q_len_nil isl50 rfl) ?_
                    refine rg_q (q_move (x := .d (.v _)) rfl) ?_
                    refine rg_nil ?_
                    refine aops_nil ?_
                    change Awp _ _ _ _ _
                    first | refine awp_len (t := 94) rfl (fun hl94 => ?_) | skip
                    (try simp only [List.length_map] at hl94)
                    refine awp_block ?_
                    refine awp_loopH [4, 5, 6, 14, 96, 97, 98, 99, 100, 101, 102, 103, 104, 105, 106, 107] [] (α := Nat) (fun j => [(96, T.i (j : Int))]) (fun j => []) (fun j => j ≤ s.needs.length ∧ ∀ n ∈ s.needs.take j, validS l (addS l L ⟨x.minute, -1, x.warmth⟩) n.toNat x.minute = true) (fun j => s.needs.length - j) 0 ⟨Nat.zero_le _, (fun n hn => by simp at hn)⟩ ?_ ?_
                    · exact le_head (ms := []) (by repeat (first | exact Out.refl _ | exact Out.head rfl rfl | (refine Out.put ?_ rfl) | (refine Out.site ?_ rfl) | (refine Out.putn ?_) | (refine Out.headIn ?_ rfl rfl rfl) | (refine Out.called ?_ rfl rfl))) ⟨(by first | rfl | (simp; done)), trivial⟩ trivial rfl rfl rfl rfl
                    ·
                      intro j ⟨hj, hg⟩
                      refine awp_seq ?_
                      refine awp_region 1 mixed (by kernel_rfl) ?_
                      refine rg_q (q_lss rfl rfl) ?_
                      refine rg_nil ?_
                      refine aops_nil ?_
                      change Awp _ _ _ _ _
                      refine awp_seq ?_
                      refine awp_cond rfl (fun hc22 => ?_) (fun hc22 => ?_)
                      ·
                        (try simp only [decide_eq_true_eq, decide_eq_false_iff_not, Bool.and_eq_true, Bool.or_eq_true, Bool.and_eq_false_iff, Bool.or_eq_false_iff, Bool.not_eq_true', Bool.not_eq_false', Bool.not_true, Bool.not_false, bif_and, bif_or, Bool.not_not, ne_eq, Decidable.not_not, not_true_eq_false, not_false_eq_true, Int.not_le, Int.not_lt] at hc22)
                        have hjlt : j < s.needs.length := by omega
                        obtain ⟨z, hn⟩ : ∃ z, s.needs[j]? = some z := ⟨_, List.getElem?_eq_getElem hjlt⟩
                        obtain ⟨hz1, hz2⟩ := hse z (List.mem_of_getElem? hn)
                        obtain ⟨q, rfl⟩ : ∃ q : Nat, z = (q : Int) := ⟨z.toNat, by omega⟩
                        have hvp := valid_p l (addS l L ⟨x.minute, -1, x.warmth⟩) hr hBw.w.len hBw.m q (by omega) x.minute
                        refine awp_skip ?_
                        change Awp _ _ _ _ _
                        refine awp_seq ?_
                        refine awp_block ?_
                        refine awp_seq ?_
                        refine awp_region 3 mixed (by kernel_rfl) ?_
                        first | refine rg_q (q_indexAddr sl50 rfl rfl (by omega) (map_at (by omega) hx)) ?_ | refine rg_q (q_indexAddr sl50 rfl rfl (by omega) (map_at (by omega) hn)) ?_ | refine rg_q (q_indexAddr sl50 rfl rfl (by omega) (map_at (by omega) hs0)) ?_ | refine rg_q (q_indexAddr_rs sl50 rfl rfl rfl (by omega) (by omega)) ?_
                        first | refine rg_q (q_load sz3 rfl rfl) ?_ | refine rg_q (q_load_ref sz3 rfl rfl rfl) ?_ | refine rg_q (q_load_tb (x := .d _) sz3 rfl rfl rfl) ?_ | refine rg_q (q_load_tb (x := .rs _) sz3 rfl rfl rfl) ?_
                        refine rg_q (q_assign (x := .d (.v _)) rfl) ?_
                        refine rg_nil ?_
                        refine aops_nil ?_
                        change Awp _ _ _ _ _
                        refine awp_seq ?_
                        refine awp_region 6 mixed (by kernel_rfl) ?_
                        first | refine rg_q (q_move (x := .d (.pt _ _)) rfl) ?_ | refine rg_q (q_move (x := .ref _ _) rfl) ?_ | refine rg_q (q_move (x := .d (.v _)) rfl) ?_ | refine rg_q (q_move (x := .d _) rfl) ?_
                        refine rg_q (q_move (x := .d (.v _)) rfl) ?_
                        first | refine rg_q (q_fieldAddr fld23_0 rfl) ?_ | refine rg_q (q_fieldAddr_ref fld23_0 rfl) ?_
                        first | refine rg_q (q_load sz3 rfl rfl) ?_ | refine rg_q (q_load_ref sz3 rfl rfl rfl) ?_ | refine rg_q (q_load_tb (x := .d _) sz3 rfl rfl rfl) ?_ | refine rg_q (q_load_tb (x := .rs _) sz3 rfl rfl rfl) ?_
                        first | refine rg_q (q_call en33 (.cons rfl (.cons rfl (.cons rfl .nil))) rfl (hvp)) ?_ | refine rg_q (q_callF en33 (.cons (by first | exact .d _ | exact .rs rfl | exact .ref rfl | exact .nil _ | exact .tref rfl (by repeat (first | exact .nil | refine .cons (.d _ rfl) ?_ | refine .cons (.rs rfl) ?_))) (.cons (by first | exact .d _ | exact .rs rfl | exact .ref rfl | exact .nil _ | exact .tref rfl (by repeat (first | exact .nil | refine .cons (.d _ rfl) ?_ | refine .cons (.rs rfl) ?_))) (.cons (by first | exact .d _ | exact .rs rfl | exact .ref rfl | exact .nil _ | exact .tref rfl (by repeat (first | exact .nil | refine .cons (.d _ rfl) ?_ | refine .cons (.rs rfl) ?_))) .nil))) rfl (hvp) (by first | exact .v _ | exact D.Flat.tupF (by repeat first | exact trivial | refine ⟨.v _, ?_⟩) | exact D.Flat.aggF (by repeat first | exact trivial | refine ⟨.v _, ?_⟩))) ?_
                        refine rg_q (q_not rfl) ?_
                        refine rg_nil ?_
                        refine aops_nil ?_
                        change Awp _ _ _ _ _
                        refine awp_cond rfl (fun hc24 => ?_) (fun hc24 => ?_)
                        ·
                          (try simp only [decide_eq_true_eq, decide_eq_false_iff_not, Bool.and_eq_true, Bool.or_eq_true, Bool.and_eq_false_iff, Bool.or_eq_false_iff, Bool.not_eq_true', Bool.not_eq_false', Bool.not_true, Bool.not_false, bif_and, bif_or, Bool.not_not, ne_eq, Decidable.not_not, not_true_eq_false, not_false_eq_true, Int.not_le, Int.not_lt] at hc24)
                          have hb : evBad l L (prevE ev k) x = 20 := by
                            rw [hbe2, if_pos]
                            rw [List.all_eq_false]
                            exact ⟨_, List.mem_of_getElem? hn, by simpa using hc24⟩
                          refine awp_seq ?_
                          refine awp_region 4 mixed (by kernel_rfl) ?_
                          refine rg_q (q_move (x := .d (.v _)) rfl) ?_
                          first | refine rg_q (q_assign (x := .d (.pt _ _)) rfl) ?_ | refine rg_q (q_assign (x := .ref _ _) rfl) ?_ | refine rg_q (q_assign (x := .d (.v _)) rfl) ?_ | refine rg_q (q_assign (x := .d _) rfl) ?_
                          refine rg_q (q_assign (x := .d (.v _)) rfl) ?_
                          refine rg_q (q_assign (x := .d (.v _)) rfl) ?_
                          refine rg_nil ?_
                          refine aops_nil ?_
                          change Awp _ _ _ _ _
                          refine awp_ret ?_
                          refine ⟨_, (.cons (.tmp (by first | exact .d _ | exact .rs rfl | exact .ref rfl | exact .tref rfl (.cons (.d _ rfl) (.cons (.rs rfl) .nil)))) (.cons (.tmp (by first | exact .d _ | exact .rs rfl | exact .ref rfl | exact .tref rfl (.cons (.d _ rfl) (.cons (.rs rfl) .nil)))) (.cons (.tmp (by first | exact .d _ | exact .rs rfl | exact .ref rfl | exact .tref rfl (.cons (.d _ rfl) (.cons (.rs rfl) .nil)))) .nil))), ?_⟩
                          rw [hz, hf, hd, if_pos (by rw [hb]; simp), hb]; rfl
                        ·
                          (try simp only [decide_eq_true_eq, decide_eq_false_iff_not, Bool.and_eq_true, Bool.or_eq_true, Bool.and_eq_false_iff, Bool.or_eq_false_iff, Bool.not_eq_true', Bool.not_eq_false', Bool.not_true, Bool.not_false, bif_and, bif_or, Bool.not_not, ne_eq, Decidable.not_not, not_true_eq_false, not_false_eq_true, Int.not_le, Int.not_lt] at hc24)
                          refine awp_skip ?_
                          change Awp _ _ _ _ _
                          refine awp_region 2 mixed (by kernel_rfl) ?_
                          refine rg_q (q_add rfl rfl (In64.mk (by omega) (by omega))) ?_
                          refine rg_q (q_move (x := .d (.v _)) rfl) ?_
                          refine rg_nil ?_
                          refine aops_nil ?_
                          refine ⟨j + 1, ⟨by omega, (fun n hnm => by rw [List.take_add_one, hn, Option.toList_some, List.mem_append] at hnm; rcases hnm with h | h; exact hg n h; simp at h; subst h; simpa using hc24)⟩, by omega, ?_⟩
                          exact le_head (ms := []) (by repeat (first | exact Out.refl _ | exact Out.head rfl rfl | (refine Out.put ?_ rfl) | (refine Out.site ?_ rfl) | (refine Out.putn ?_) | (refine Out.headIn ?_ rfl rfl rfl) | (refine Out.called ?_ rfl rfl))) ⟨(by first | rfl | (simp; done)), trivial⟩ trivial rfl rfl rfl rfl
                      ·
                        (try simp only [decide_eq_true_eq, decide_eq_false_iff_not, Bool.and_eq_true, Bool.or_eq_true, Bool.and_eq_false_iff, Bool.or_eq_false_iff, Bool.not_eq_true', Bool.not_eq_false', Bool.not_true, Bool.not_false, bif_and, bif_or, Bool.not_not, ne_eq, Decidable.not_not, not_true_eq_false, not_false_eq_true, Int.not_le, Int.not_lt] at hc22)
                        have hb : evBad l L (prevE ev k) x = 0 := by
                          rw [hbe2, if_neg]
                          rw [List.take_of_length_le (by omega)] at hg
                          simpa using hg
                        refine awp_exit ?_
                        change Awp _ _ _ _ _
                        refine awp_region 2 mixed (by kernel_rfl) ?_
                        first | refine rg_q (q_move (x := .d (.pt _ _)) rfl) ?_ | refine rg_q (q_move (x := .ref _ _) rfl) ?_ | refine rg_q (q_move (x := .d (.v _)) rfl) ?_ | refine rg_q (q_move (x := .d _) rfl) ?_
                        first | refine rg_q (q_loadA (ds := [_, _, _]) sz23 rfl rfl rfl) ?_ | refine rg_q (q_load_refA (ds := [_, _, _]) sz23 rfl rfl rfl rfl) ?_
                        refine rg_nil ?_
                        refine aops_callL [9, 27] [27] en56 (add_p l L x hB.w ⟨x3, x4⟩) (.cons rfl (.cons rfl .nil)) rfl rfl rfl (by repeat (first | exact trivial | refine ⟨rfl, ?_⟩)) (by repeat (first | exact trivial | refine ⟨rfl, ?_⟩)) rfl ?_
                        refine aops_nil ?_
                        change Awp _ _ _ _ _
                        refine awp_region 2 mixed (by kernel_rfl) ?_
                        refine rg_q (q_add rfl rfl (In64.mk (by omega) (by omega))) ?_
                        refine rg_q (q_move (x := .d (.v _)) rfl) ?_
                        refine rg_nil ?_
                        refine aops_nil ?_
                        refine ⟨(k + 1, addS l L x), ⟨by omega, bookOk_add hB ⟨x1, x2, x3, x4⟩, by rw [hf, hd, if_neg (by rw [hb]; simp)]⟩, by simp only; omega, ?_⟩
                        exact le_head (ms := [9, 27]) (by repeat (first | exact Out.refl _ | exact Out.head rfl rfl | (refine Out.put ?_ rfl) | (refine Out.site ?_ rfl) | (refine Out.putn ?_) | (refine Out.headIn ?_ rfl rfl rfl) | (refine Out.called ?_ rfl rfl))) ⟨(by first | rfl | (simp; done)), trivial⟩ ⟨(by first | rfl | (simp; done)), (by first | rfl | (simp; done)), trivial⟩ rfl rfl rfl rfl
                  ·
                    (try simp only [decide_eq_true_eq, decide_eq_false_iff_not, Bool.and_eq_true, Bool.or_eq_true, Bool.and_eq_false_iff, Bool.or_eq_false_iff, Bool.not_eq_true', Bool.not_eq_false', Bool.not_true, Bool.not_false, bif_and, bif_or, Bool.not_not, ne_eq, Decidable.not_not, not_true_eq_false, not_false_eq_true, Int.not_le, Int.not_lt] at hc18)
                    have hb : evBad l L (prevE ev k) x = 0 := by rw [hbe, if_neg (by simp [hc18])]
                    refine awp_skip ?_
                    change Awp _ _ _ _ _
                    refine awp_region 2 mixed (by kernel_rfl) ?_
                    first | refine rg_q (q_move (x := .d (.pt _ _)) rfl) ?_ | refine rg_q (q_move (x := .ref _ _) rfl) ?_ | refine rg_q (q_move (x := .d (.v _)) rfl) ?_ | refine rg_q (q_move (x := .d _) rfl) ?_
                    first | refine rg_q (q_loadA (ds := [_, _, _]) sz23 rfl rfl rfl) ?_ | refine rg_q (q_load_refA (ds := [_, _, _]) sz23 rfl rfl rfl rfl) ?_
                    refine rg_nil ?_
                    refine aops_callL [9, 27] [27] en56 (add_p l L x hB.w ⟨x3, x4⟩) (.cons rfl (.cons rfl .nil)) rfl rfl rfl (by repeat (first | exact trivial | refine ⟨rfl, ?_⟩)) (by repeat (first | exact trivial | refine ⟨rfl, ?_⟩)) rfl ?_
                    refine aops_nil ?_
                    change Awp _ _ _ _ _
                    refine awp_region 2 mixed (by kernel_rfl) ?_
                    refine rg_q (q_add rfl rfl (In64.mk (by omega) (by omega))) ?_
                    refine rg_q (q_move (x := .d (.v _)) rfl) ?_
                    refine rg_nil ?_
                    refine aops_nil ?_
                    refine ⟨(k + 1, addS l L x), ⟨by omega, bookOk_add hB ⟨x1, x2, x3, x4⟩, by rw [hf, hd, if_neg (by rw [hb]; simp)]⟩, by simp only; omega, ?_⟩
                    exact le_head (ms := [9, 27]) (by repeat (first | exact Out.refl _ | exact Out.head rfl rfl | (refine Out.put ?_ rfl) | (refine Out.site ?_ rfl) | (refine Out.putn ?_) | (refine Out.headIn ?_ rfl rfl rfl) | (refine Out.called ?_ rfl rfl))) ⟨(by first | rfl | (simp; done)), trivial⟩ ⟨(by first | rfl | (simp; done)), (by first | rfl | (simp; done)), trivial⟩ rfl rfl rfl rfl
        ·
          (try simp only [decide_eq_true_eq, decide_eq_false_iff_not, Bool.and_eq_true, Bool.or_eq_true, Bool.and_eq_false_iff, Bool.or_eq_false_iff, Bool.not_eq_true', Bool.not_eq_false', Bool.not_true, Bool.not_false, bif_and, bif_or, Bool.not_not, ne_eq, Decidable.not_not, not_true_eq_false, not_false_eq_true, Int.not_le, Int.not_lt] at hc8)
          refine awp_exit ?_
          change Awp _ _ _ _ _
          refine awp_seq ?_
          refine awp_region 4 mixed (by kernel_rfl) ?_
          first | refine rg_q (q_move (x := .d (.pt _ _)) rfl) ?_ | refine rg_q (q_move (x := .ref _ _) rfl) ?_ | refine rg_q (q_move (x := .d (.v _)) rfl) ?_ | refine rg_q (q_move (x := .d _) rfl) ?_
          first | refine rg_q (q_assign (x := .d (.pt _ _)) rfl) ?_ | refine rg_q (q_assign (x := .ref _ _) rfl) ?_ | refine rg_q (q_assign (x := .d (.v _)) rfl) ?_ | refine rg_q (q_assign (x := .d _) rfl) ?_
          refine rg_q (q_assign (x := .d (.v _)) rfl) ?_
          refine rg_q (q_assign (x := .d (.v _)) rfl) ?_
          refine rg_nil ?_
          refine aops_nil ?_
          change Awp _ _ _ _ _
          refine awp_ret ?_
          refine ⟨_, (.cons (.tmp (by first | exact .d _ | exact .rs rfl | exact .ref rfl | exact .tref rfl (.cons (.d _ rfl) (.cons (.rs rfl) .nil)))) (.cons (.tmp (by first | exact .d _ | exact .rs rfl | exact .ref rfl | exact .tref rfl (.cons (.d _ rfl) (.cons (.rs rfl) .nil)))) (.cons (.tmp (by first | exact .d _ | exact .rs rfl | exact .ref rfl | exact .tref rfl (.cons (.d _ rfl) (.cons (.rs rfl) .nil)))) .nil))), ?_⟩
          rw [hz, hf, List.drop_of_length_le (by omega)]; rfl
end Go.Proofs.YtepaabbfindaeaaGreatDoor.Am.M
