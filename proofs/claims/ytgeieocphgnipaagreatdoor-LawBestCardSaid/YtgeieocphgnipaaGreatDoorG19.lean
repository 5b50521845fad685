/- Contracts over the abstract machine: the best place: the code, the reference, LawBest. Conditions: none. -/
import Derived.Test.YtgeieocphgnipaaGreatDoorG17
set_option linter.unusedVariables false
set_option linter.unusedSimpArgs false
-- mini
namespace Go.Proofs.YtgeieocphgnipaaGreatDoor.Am.M
open Go

def plE1 (a : Lar) : List (Int × Int) → Int
  | [] => 0
  | p :: ps => if plcE a p ≠ 0 then plcE a p else plE1 a ps
theorem plE1_at {a : Lar} {l : List (Int × Int)} {k : Nat} {p : Int × Int} (h : l[k]? = some p) : plE1 a (l.drop k) = if plcE a p ≠ 0 then plcE a p else plE1 a (l.drop (k + 1)) := by
  obtain ⟨hlt, hx⟩ := List.getElem?_eq_some_iff.1 h
  rw [List.drop_eq_getElem_cons hlt, hx]; rfl
theorem plE1_ok {a : Lar} : ∀ {l : List (Int × Int)}, plE1 a l = 0 → ∀ p ∈ l, plcE a p = 0
  | [], _, p, hp => by cases hp
  | q :: l, h, p, hp => by
    unfold plE1 at h
    by_cases hq : plcE a q ≠ 0
    · rw [if_pos hq] at h; exact absurd h hq
    · rw [if_neg hq] at h
      rcases List.mem_cons.1 hp with rfl | hp
      · exact Decidable.not_not.1 hq
      · exact plE1_ok h p hp
/-- The best of places, from the number i on; (b, l): the best so far and its end. -/
def bstF (a : Lar) (x : Dly) : Nat → Int → Int → List (Int × Int) → Int × Int
  | _, b, _, [] => (b, 0)
  | i, b, l, p :: ps => if (sprL (arrL a x p)).2 ≠ 0 then (0, (sprL (arrL a x p)).2) else if i = 0 ∨ (sprL (arrL a x p)).1.2 < l then bstF a x (i + 1) i (sprL (arrL a x p)).1.2 ps else bstF a x (i + 1) b l ps
theorem bstF_at {a : Lar} {x : Dly} {ps : List (Int × Int)} {k i : Nat} {b l : Int} {p : Int × Int} (h : ps[k]? = some p) : bstF a x i b l (ps.drop k) = if (sprL (arrL a x p)).2 ≠ 0 then (0, (sprL (arrL a x p)).2) else if i = 0 ∨ (sprL (arrL a x p)).1.2 < l then bstF a x (i + 1) i (sprL (arrL a x p)).1.2 (ps.drop (k + 1)) else bstF a x (i + 1) b l (ps.drop (k + 1)) := by
  obtain ⟨hlt, hx⟩ := List.getElem?_eq_some_iff.1 h
  rw [List.drop_eq_getElem_cons hlt, hx]; rfl
def bstN (a : Lar) (x : Dly) (ps : List (Int × Int)) : Int × Int := if (ps.length : Int) = 0 then (0, 10) else if 20 < (ps.length : Int) then (0, 8) else if plE1 a ps ≠ 0 then (0, plE1 a ps) else bstF a x 0 0 0 ps
def bstR (a : Lar) (x : Dly) (ps : List (Int × Int)) : Int × Int := if opnE a x ≠ 0 then (0, opnE a x) else bstN a x ps
def atI (k : Nat) (b : Int) : Int := if k = 0 then -1 else b
set_option maxRecDepth 100000 in
theorem bestBad_p (a : Lar) (x : Dly) (ps : List (Int × Int)) (ho : opnE a x ≠ 0) : PC Tryz.prog 44 [.agg (larC a), .agg (dlyC x), .sl 2 (ps.map shC)] (.tup [.v (.int .i64 ((bstR a x ps).1)), .v (.int .i64 ((bstR a x ps).2))]) := by
  have hz : bstR a x ps = (0, opnE a x) := by unfold bstR; rw [if_pos ho]
  refine pc_of_awp Tryz.func44 rfl Tryz.ntmps44 (rs := [.tmp 6, .tmp 7]) Tryz.results44 (by simp) fun w0 => ?_
  refine awp_seq ?_
  refine awp_region 4 mixed (by kernel_rfl) ?_
  refine rg_q (q_box rfl (by exact .inr ⟨_, rfl⟩)) ?_
  refine rg_q (q_box rfl (by exact .inr ⟨_, rfl⟩)) ?_
  refine rg_q (q_assign (x := .d (.v _)) rfl) ?_
  refine rg_q (q_assign (x := .d (.v _)) rfl) ?_
  refine rg_nil ?_
  refine aops_nil ?_
  change Awp _ _ _ _ _
  refine awp_seq ?_
  refine awp_region 6 mixed (by kernel_rfl) ?_
  refine rg_q (q_loadA (ds := [_, _, _, _, _, _]) sz26 rfl rfl rfl) ?_
  refine rg_q (q_loadA (ds := [_, _]) sz33 rfl rfl rfl) ?_
  refine rg_q (q_call en87 (.cons rfl (.cons rfl .nil)) rfl (openBad_p a x ho)) ?_
  refine rg_q (q_move (x := .d (.tup _)) rfl) ?_
  refine rg_q (q_extract rfl rfl) ?_
  refine rg_q (q_extract rfl rfl) ?_
  refine rg_nil ?_
  refine aops_alloc zr138 rfl rfl rfl ?_
  refine aops_store sz138 rfl rfl (by exact .inr ⟨_, rfl⟩) rfl rfl (by decide) rfl ?_
  refine aops_q rfl (q_assign (x := .d (.v _)) rfl) ?_
  refine aops_nil ?_
  change Awp _ _ _ _ _
  refine awp_seq ?_
  refine awp_block ?_
  refine awp_seq ?_
  refine awp_region 3 mixed (by kernel_rfl) ?_
  refine rg_q (q_move (x := .d (.v _)) rfl) ?_
  refine rg_q (q_neq rfl rfl) ?_
  refine rg_q (q_assign (x := .d (.v _)) rfl) ?_
  refine rg_nil ?_
  refine aops_nil ?_
  change Awp _ _ _ _ _
  refine awp_cond rfl (fun hc2 => ?_) (fun hc2 => ?_)
  ·
    (try simp only [decide_eq_true_eq, decide_eq_false_iff_not, Bool.and_eq_true, Bool.or_eq_true, Bool.and_eq_false_iff, Bool.or_eq_false_iff, Bool.not_eq_true', Bool.not_eq_false', Bool.not_true, Bool.not_false, bif_and, bif_or, Bool.not_not, ne_eq, Decidable.not_not, not_true_eq_false, not_false_eq_true, Int.not_le, Int.not_lt] at hc2)
    refine awp_seq ?_
    refine awp_region 3 mixed (by kernel_rfl) ?_
    refine rg_q (q_move (x := .d (.v _)) rfl) ?_
    refine rg_q (q_assign (x := .d (.v _)) rfl) ?_
    refine rg_q (q_assign (x := .d (.v _)) rfl) ?_
    refine rg_nil ?_
    refine aops_nil ?_
    change Awp _ _ _ _ _
    refine awp_ret ?_
    refine ⟨_, (.cons (.tmp (by exact .d _)) (.cons (.tmp (by exact .d _)) .nil)), ?_⟩
    rw [hz]; rfl
  ·
    simp at hc2
    exact absurd hc2 ho
set_option maxRecDepth 100000 in
theorem bestOk_p (a : Lar) (x : Dly) (ps : List (Int × Int)) (ho : opnE a x = 0) : PC Tryz.prog 44 [.agg (larC a), .agg (dlyC x), .sl 2 (ps.map shC)] (.tup [.v (.int .i64 ((bstR a x ps).1)), .v (.int .i64 ((bstR a x ps).2))]) := by
  have hz : bstR a x ps = bstN a x ps := by unfold bstR; rw [if_neg (fun q => q ho)]
  obtain ⟨h1, h2, h3⟩ := lop_ok ho
  obtain ⟨_, _, _, _, _, _, t1, t2⟩ := (lar_ok h1).1.md
  have hu : bstN a x ps = if (ps.length : Int) = 0 then (0, 10) else if 20 < (ps.length : Int) then (0, 8) else if plE1 a ps ≠ 0 then (0, plE1 a ps) else bstF a x 0 0 0 ps := rfl
  refine pc_of_awp Tryz.func44 rfl Tryz.ntmps44 (rs := [.tmp 6, .tmp 7]) Tryz.results44 (by simp) fun w0 => ?_
  refine awp_seq ?_
  refine awp_region 4 mixed (by kernel_rfl) ?_
  refine rg_q (q_box rfl (by exact .inr ⟨_, rfl⟩)) ?_
  refine rg_q (q_box rfl (by exact .inr ⟨_, rfl⟩)) ?_
  refine rg_q (q_assign (x := .d (.v _)) rfl) ?_
  refine rg_q (q_assign (x := .d (.v _)) rfl) ?_
  refine rg_nil ?_
  refine aops_nil ?_
  change Awp _ _ _ _ _
  refine awp_seq ?_
  refine awp_region 6 mixed (by kernel_rfl) ?_
  refine rg_q (q_loadA (ds := [_, _, _, _, _, _]) sz26 rfl rfl rfl) ?_
  refine rg_q (q_loadA (ds := [_, _]) sz33 rfl rfl rfl) ?_
  refine rg_q (q_call en87 (.cons rfl (.cons rfl .nil)) rfl (open_p a x ho)) ?_
  refine rg_q (q_move (x := .d (.tup _)) rfl) ?_
  refine rg_q (q_extract rfl rfl) ?_
  refine rg_q (q_extract rfl rfl) ?_
  refine rg_nil ?_
  refine aops_alloc zr138 rfl rfl rfl ?_
  refine aops_store sz138 rfl rfl (by exact .inr ⟨_, rfl⟩) rfl rfl (by decide) rfl ?_
  refine aops_q rfl (q_assign (x := .d (.v _)) rfl) ?_
  refine aops_nil ?_
  change Awp _ _ _ _ _
  refine awp_seq ?_
  refine awp_block ?_
  refine awp_seq ?_
  refine awp_region 3 mixed (by kernel_rfl) ?_
  refine rg_q (q_move (x := .d (.v _)) rfl) ?_
  refine rg_q (q_neq rfl rfl) ?_
  refine rg_q (q_assign (x := .d (.v _)) rfl) ?_
  refine rg_nil ?_
  refine aops_nil ?_
  change Awp _ _ _ _ _
  refine awp_cond rfl (fun hc2 => ?_) (fun hc2 => ?_)
  ·
    simp at hc2
  ·
    (try simp only [decide_eq_true_eq, decide_eq_false_iff_not, Bool.and_eq_true, Bool.or_eq_true, Bool.and_eq_false_iff, Bool.or_eq_false_iff, Bool.not_eq_true', Bool.not_eq_false', Bool.not_true, Bool.not_false, bif_and, bif_or, Bool.not_not, ne_eq, Decidable.not_not, not_true_eq_false, not_false_eq_true, Int.not_le, Int.not_lt] at hc2)
    refine awp_seq ?_
    refine awp_region 4 mixed (by kernel_rfl) ?_
    refine rg_q (q_move (x := .d (.sl _ _)) rfl) ?_
    refine rg_q (q_len isl22 rfl (by exact len_map _ _)) ?_
    refine rg_q (q_eql rfl rfl) ?_
    refine rg_q (q_assign (x := .d (.v _)) rfl) ?_
    refine rg_nil ?_
    refine aops_nil ?_
    change Awp _ _ _ _ _
    refine awp_len (t := 30) rfl (fun hl30 => ?_)
    (try simp only [List.length_map] at hl30)
    refine awp_cond rfl (fun hc4 => ?_) (fun hc4 => ?_)
    ·
      (try simp only [decide_eq_true_eq, decide_eq_false_iff_not, Bool.and_eq_true, Bool.or_eq_true, Bool.and_eq_false_iff, Bool.or_eq_false_iff, Bool.not_eq_true', Bool.not_eq_false', Bool.not_true, Bool.not_false, bif_and, bif_or, Bool.not_not, ne_eq, Decidable.not_not, not_true_eq_false, not_false_eq_true, Int.not_le, Int.not_lt] at hc4)
      try simp only [List.length_map] at hc4
      rw [if_pos hc4] at hu
      refine awp_seq ?_
      refine awp_region 2 mixed (by kernel_rfl) ?_
      refine rg_q (q_assign (x := .d (.v _)) rfl) ?_
      refine rg_q (q_assign (x := .d (.v _)) rfl) ?_
      refine rg_nil ?_
      refine aops_nil ?_
      change Awp _ _ _ _ _
      refine awp_ret ?_
      refine ⟨_, (.cons (.tmp (by exact .d _)) (.cons (.tmp (by exact .d _)) .nil)), ?_⟩
      rw [hz, hu]; rfl
    ·
      (try simp only [decide_eq_true_eq, decide_eq_false_iff_not, Bool.and_eq_true, Bool.or_eq_true, Bool.and_eq_false_iff, Bool.or_eq_false_iff, Bool.not_eq_true', Bool.not_eq_false', Bool.not_true, Bool.not_false, bif_and, bif_or, Bool.not_not, ne_eq, Decidable.not_not, not_true_eq_false, not_false_eq_true, Int.not_le, Int.not_lt] at hc4)
      try simp only [List.length_map] at hc4
      rw [if_neg hc4] at hu
      refine awp_seq ?_
      refine awp_region 4 mixed (by kernel_rfl) ?_
      refine rg_q (q_move (x := .d (.sl _ _)) rfl) ?_
      refine rg_q (q_len isl22 rfl (by exact len_map _ _)) ?_
      refine rg_q (q_gtr rfl rfl) ?_
      refine rg_q (q_assign (x := .d (.v _)) rfl) ?_
      refine rg_nil ?_
      refine aops_nil ?_
      change Awp _ _ _ _ _
      refine awp_len (t := 34) rfl (fun hl34 => ?_)
      (try simp only [List.length_map] at hl34)
      refine awp_cond rfl (fun hc6 => ?_) (fun hc6 => ?_)
      ·
        (try simp only [decide_eq_true_eq, decide_eq_false_iff_not, Bool.and_eq_true, Bool.or_eq_true, Bool.and_eq_false_iff, Bool.or_eq_false_iff, Bool.not_eq_true', Bool.not_eq_false', Bool.not_true, Bool.not_false, bif_and, bif_or, Bool.not_not, ne_eq, Decidable.not_not, not_true_eq_false, not_false_eq_true, Int.not_le, Int.not_lt] at hc6)
        try simp only [List.length_map] at hc6
        rw [if_pos hc6] at hu
        refine awp_seq ?_
        refine awp_region 2 mixed (by kernel_rfl) ?_
        refine rg_q (q_assign (x := .d (.v _)) rfl) ?_
        refine rg_q (q_assign (x := .d (.v _)) rfl) ?_
        refine rg_nil ?_
        refine aops_nil ?_
        change Awp _ _ _ _ _
        refine awp_ret ?_
        refine ⟨_, (.cons (.tmp (by exact .d _)) (.cons (.tmp (by exact .d _)) .nil)), ?_⟩
        rw [hz, hu]; rfl
      ·
        (try simp only [decide_eq_true_eq, decide_eq_false_iff_not, Bool.and_eq_true, Bool.or_eq_true, Bool.and_eq_false_iff, Bool.or_eq_false_iff, Bool.not_eq_true', Bool.not_eq_false', Bool.not_true, Bool.not_false, bif_and, bif_or, Bool.not_not, ne_eq, Decidable.not_not, not_true_eq_false, not_false_eq_true, Int.not_le, Int.not_lt] at hc6)
        try simp only [List.length_map] at hc6
        rw [if_neg (by omega)] at hu
        refine awp_skip ?_
        change Awp _ _ _ _ _
        refine awp_seq ?_
        refine awp_seq ?_
        refine awp_region 3 mixed (by kernel_rfl) ?_
        refine rg_q (q_move (x := .d (.sl _ _)) rfl) ?_
        refine rg_q (q_len isl22 rfl (by exact len_map _ _)) ?_
        refine rg_q (q_move (x := .d (.v _)) rfl) ?_
        refine rg_nil ?_
        refine aops_nil ?_
        change Awp _ _ _ _ _
        refine awp_len (t := 37) rfl (fun hl37 => ?_)
        (try simp only [List.length_map] at hl37)
        refine awp_block ?_
        refine awp_loopH [6, 7, 11, 12, 39, 40, 41, 42, 43, 44, 45, 46, 47, 48, 49] [] (α := Nat) (fun k => [(39, T.i (k : Int))]) (fun k => []) (fun k => k ≤ ps.length ∧ plE1 a ps = plE1 a (ps.drop k)) (fun k => ps.length - k) 0 ⟨Nat.zero_le _, rfl⟩ ?_ ?_
        · exact le_head (ms := []) (by repeat (exact Out.refl _)) ⟨(by rfl), trivial⟩ trivial rfl rfl rfl rfl
        ·
          intro k ⟨hk, hf⟩
          refine awp_seq ?_
          refine awp_region 1 mixed (by kernel_rfl) ?_
          refine rg_q (q_lss rfl rfl) ?_
          refine rg_nil ?_
          refine aops_nil ?_
          change Awp _ _ _ _ _
          refine awp_seq ?_
          refine awp_cond rfl (fun hc9 => ?_) (fun hc9 => ?_)
          ·
            (try simp only [decide_eq_true_eq, decide_eq_false_iff_not, Bool.and_eq_true, Bool.or_eq_true, Bool.and_eq_false_iff, Bool.or_eq_false_iff, Bool.not_eq_true', Bool.not_eq_false', Bool.not_true, Bool.not_false, bif_and, bif_or, Bool.not_not, ne_eq, Decidable.not_not, not_true_eq_false, not_false_eq_true, Int.not_le, Int.not_lt] at hc9)
            try simp only [List.length_map] at hc9
            have hlt : k < ps.length := by omega
            obtain ⟨p, hx⟩ : ∃ p, ps[k]? = some p := ⟨_, List.getElem?_eq_getElem hlt⟩
            have hd := plE1_at (a := a) hx
            refine awp_skip ?_
            change Awp _ _ _ _ _
            refine awp_seq ?_
            refine awp_block ?_
            refine awp_seq ?_
            refine awp_region 2 mixed (by kernel_rfl) ?_
            refine rg_q (q_indexAddr sl22 rfl rfl (by omega) (map_at (by omega) hx)) ?_
            refine rg_q (q_loadA (ds := [_, _]) sz28 rfl rfl rfl) ?_
            refine rg_nil ?_
            refine aops_alloc zr28 rfl rfl rfl ?_
            refine aops_store sz28 rfl rfl (by exact .inr ⟨_, rfl⟩) rfl rfl (by decide) rfl ?_
            refine aops_nil ?_
            change Awp _ _ _ _ _
            refine awp_seq ?_
            refine awp_region 4 mixed (by kernel_rfl) ?_
            refine rg_q (q_loadA (ds := [_, _, _, _, _, _]) sz26 rfl rfl rfl) ?_
            refine rg_q (q_load_refA (ds := [_, _]) sz28 rfl rfl rfl rfl) ?_
            refine rg_q (q_call en81 (.cons rfl (.cons rfl .nil)) rfl (placeErr_p a p t1 t2)) ?_
            refine rg_q (q_assign (x := .d (.v _)) rfl) ?_
            refine rg_nil ?_
            refine aops_nil ?_
            change Awp _ _ _ _ _
            refine awp_seq ?_
            refine awp_region 2 mixed (by kernel_rfl) ?_
            refine rg_q (q_move (x := .d (.v _)) rfl) ?_
            refine rg_q (q_neq rfl rfl) ?_
            refine rg_nil ?_
            refine aops_nil ?_
            change Awp _ _ _ _ _
            refine awp_cond rfl (fun hc12 => ?_) (fun hc12 => ?_)
            ·
              (try simp only [decide_eq_true_eq, decide_eq_false_iff_not, Bool.and_eq_true, Bool.or_eq_true, Bool.and_eq_false_iff, Bool.or_eq_false_iff, Bool.not_eq_true', Bool.not_eq_false', Bool.not_true, Bool.not_false, bif_and, bif_or, Bool.not_not, ne_eq, Decidable.not_not, not_true_eq_false, not_false_eq_true, Int.not_le, Int.not_lt] at hc12)
              have he : plE1 a ps = plcE a p := by rw [hf, hd, if_pos hc12]
              rw [he, if_pos hc12] at hu
              refine awp_seq ?_
              refine awp_region 3 mixed (by kernel_rfl) ?_
              refine rg_q (q_move (x := .d (.v _)) rfl) ?_
              refine rg_q (q_assign (x := .d (.v _)) rfl) ?_
              refine rg_q (q_assign (x := .d (.v _)) rfl) ?_
              refine rg_nil ?_
              refine aops_nil ?_
              change Awp _ _ _ _ _
              refine awp_ret ?_
              refine ⟨_, (.cons (.tmp (by exact .d _)) (.cons (.tmp (by exact .d _)) .nil)), ?_⟩
              rw [hz, hu]; rfl
            ·
              (try simp only [decide_eq_true_eq, decide_eq_false_iff_not, Bool.and_eq_true, Bool.or_eq_true, Bool.and_eq_false_iff, Bool.or_eq_false_iff, Bool.not_eq_true', Bool.not_eq_false', Bool.not_true, Bool.not_false, bif_and, bif_or, Bool.not_not, ne_eq, Decidable.not_not, not_true_eq_false, not_false_eq_true, Int.not_le, Int.not_lt] at hc12)
              have hdn : plE1 a ps = plE1 a (ps.drop (k + 1)) := by rw [hf, hd, if_neg (fun q => q hc12)]
              refine awp_skip ?_
              change Awp _ _ _ _ _
              refine awp_region 2 mixed (by kernel_rfl) ?_
              refine rg_q (q_add rfl rfl (In64.mk (by omega) (by omega))) ?_
              refine rg_q (q_move (x := .d (.v _)) rfl) ?_
              refine rg_nil ?_
              refine aops_nil ?_
              refine ⟨k + 1, ⟨by omega, hdn⟩, by omega, ?_⟩
              exact le_head (ms := []) (by repeat (first | exact Out.head rfl rfl | (refine Out.put ?_ rfl) | (refine Out.site ?_ rfl))) ⟨(by rfl), trivial⟩ trivial rfl rfl rfl rfl
          ·
            (try simp only [decide_eq_true_eq, decide_eq_false_iff_not, Bool.and_eq_true, Bool.or_eq_true, Bool.and_eq_false_iff, Bool.or_eq_false_iff, Bool.not_eq_true', Bool.not_eq_false', Bool.not_true, Bool.not_false, bif_and, bif_or, Bool.not_not, ne_eq, Decidable.not_not, not_true_eq_false, not_false_eq_true, Int.not_le, Int.not_lt] at hc9)
            try simp only [List.length_map] at hc9
            have hkl : k = ps.length := by omega
            have he0 : plE1 a ps = 0 := by rw [hf, hkl, List.drop_length]; rfl
            rw [if_neg (fun q => q he0)] at hu
            refine awp_exit ?_
            change Awp _ _ _ _ _
            refine awp_seq ?_
            refine awp_region 2 mixed (by kernel_rfl) ?_
            refine rg_q (q_assign (x := .d (.v _)) rfl) ?_
            refine rg_q (q_assign (x := .d (.v _)) rfl) ?_
            refine rg_nil ?_
            refine aops_nil ?_
            change Awp _ _ _ _ _
            refine awp_seq ?_
            refine awp_seq ?_
            refine awp_region 3 mixed (by kernel_rfl) ?_
            refine rg_q (q_move (x := .d (.sl _ _)) rfl) ?_
            refine rg_q (q_len isl22 rfl (by exact len_map _ _)) ?_
            refine rg_q (q_move (x := .d (.v _)) rfl) ?_
            refine rg_nil ?_
            refine aops_nil ?_
            change Awp _ _ _ _ _
            refine awp_len (t := 50) rfl (fun hl50 => ?_)
            (try simp only [List.length_map] at hl50)
            refine awp_block ?_
            refine awp_loopH [6, 7, 13, 14, 15, 16, 17, 18, 52, 53, 54, 55, 56, 57, 58, 59, 60, 61, 62, 63, 64, 65, 66, 67, 68, 69, 70, 71, 72, 73, 74, 75, 76, 77] [] (α := Nat × Int × Int) (fun y => [(52, T.i (y.1 : Int)), (13, T.i y.2.1), (14, T.i y.2.2)]) (fun y => []) (fun y => y.1 ≤ ps.length ∧ bstF a x 0 0 0 ps = bstF a x y.1 y.2.1 y.2.2 (ps.drop y.1) ∧ 0 ≤ y.2.1) (fun y => ps.length - y.1) (0, 0, 0) ⟨Nat.zero_le _, rfl, Int.le_refl _⟩ ?_ ?_
            · exact le_head (ms := []) (by repeat (exact Out.refl _)) ⟨(by rfl), (by rfl), (by rfl), trivial⟩ trivial rfl rfl rfl rfl
            ·
              intro y ⟨hk, hf, hb⟩
              refine awp_seq ?_
              refine awp_region 1 mixed (by kernel_rfl) ?_
              refine rg_q (q_lss rfl rfl) ?_
              refine rg_nil ?_
              refine aops_nil ?_
              change Awp _ _ _ _ _
              refine awp_seq ?_
              refine awp_cond rfl (fun hc17 => ?_) (fun hc17 => ?_)
              ·
                (try simp only [decide_eq_true_eq, decide_eq_false_iff_not, Bool.and_eq_true, Bool.or_eq_true, Bool.and_eq_false_iff, Bool.or_eq_false_iff, Bool.not_eq_true', Bool.not_eq_false', Bool.not_true, Bool.not_false, bif_and, bif_or, Bool.not_not, ne_eq, Decidable.not_not, not_true_eq_false, not_false_eq_true, Int.not_le, Int.not_lt] at hc17)
                obtain ⟨k, b, l⟩ := y
                simp only at hk hf hb hc17
                try simp only [List.length_map] at hc17
                have hlt : k < ps.length := by omega
                obtain ⟨p, hx⟩ : ∃ p, ps[k]? = some p := ⟨_, List.getElem?_eq_getElem hlt⟩
                have hp := plE1_ok he0 p (List.mem_of_getElem? hx)
                have hd := bstF_at (a := a) (x := x) (i := k) (b := b) (l := l) hx
                refine awp_skip ?_
                change Awp _ _ _ _ _
                refine awp_seq ?_
                refine awp_block ?_
                refine awp_seq ?_
                refine awp_region 3 mixed (by kernel_rfl) ?_
                refine rg_q (q_move (x := .d (.v _)) rfl) ?_
                refine rg_q (q_indexAddr sl22 rfl rfl (by omega) (map_at (by omega) hx)) ?_
                refine rg_q (q_loadA (ds := [_, _]) sz28 rfl rfl rfl) ?_
                refine rg_nil ?_
                refine aops_alloc zr28 rfl rfl rfl ?_
                refine aops_q rfl (q_assign (x := .d (.v _)) rfl) ?_
                refine aops_store sz28 rfl rfl (by exact .inr ⟨_, rfl⟩) rfl rfl (by decide) rfl ?_
                refine aops_nil ?_
                change Awp _ _ _ _ _
                refine awp_seq ?_
                refine awp_region 6 mixed (by kernel_rfl) ?_
                refine rg_q (q_load_refA (ds := [_, _, _, _, _, _, _, _]) sz138 rfl rfl rfl rfl) ?_
                refine rg_q (q_load_refA (ds := [_, _]) sz28 rfl rfl rfl rfl) ?_
                refine rg_q (q_call en89 (.cons rfl (.cons rfl .nil)) rfl (bspread_p a x p ho hp)) ?_
                refine rg_q (q_move (x := .d (.tup _)) rfl) ?_
                refine rg_q (q_extract rfl rfl) ?_
                refine rg_q (q_extract rfl rfl) ?_
                refine rg_nil ?_
                refine aops_alloc zr49 rfl rfl rfl ?_
                refine aops_store sz49 rfl rfl (by exact .inr ⟨_, rfl⟩) rfl rfl (by decide) rfl ?_
                refine aops_q rfl (q_assign (x := .d (.v _)) rfl) ?_
                refine aops_nil ?_
                change Awp _ _ _ _ _
                refine awp_seq ?_
                refine awp_seq ?_
                refine awp_region 2 mixed (by kernel_rfl) ?_
                refine rg_q (q_move (x := .d (.v _)) rfl) ?_
                refine rg_q (q_neq rfl rfl) ?_
                refine rg_nil ?_
                refine aops_nil ?_
                change Awp _ _ _ _ _
                refine awp_cond rfl (fun hc20 => ?_) (fun hc20 => ?_)
                ·
                  (try simp only [decide_eq_true_eq, decide_eq_false_iff_not, Bool.and_eq_true, Bool.or_eq_true, Bool.and_eq_false_iff, Bool.or_eq_false_iff, Bool.not_eq_true', Bool.not_eq_false', Bool.not_true, Bool.not_false, bif_and, bif_or, Bool.not_not, ne_eq, Decidable.not_not, not_true_eq_false, not_false_eq_true, Int.not_le, Int.not_lt] at hc20)
                  have hfin : bstF a x 0 0 0 ps = (0, (sprL (arrL a x p)).2) := by rw [hf, hd, if_pos hc20]
                  refine awp_seq ?_
                  refine awp_region 3 mixed (by kernel_rfl) ?_
                  refine rg_q (q_move (x := .d (.v _)) rfl) ?_
                  refine rg_q (q_assign (x := .d (.v _)) rfl) ?_
                  refine rg_q (q_assign (x := .d (.v _)) rfl) ?_
                  refine rg_nil ?_
                  refine aops_nil ?_
                  change Awp _ _ _ _ _
                  refine awp_ret ?_
                  refine ⟨_, (.cons (.tmp (by exact .d _)) (.cons (.tmp (by exact .d _)) .nil)), ?_⟩
                  rw [hz, hu, hfin]; rfl
                ·
                  (try simp only [decide_eq_true_eq, decide_eq_false_iff_not, Bool.and_eq_true, Bool.or_eq_true, Bool.and_eq_false_iff, Bool.or_eq_false_iff, Bool.not_eq_true', Bool.not_eq_false', Bool.not_true, Bool.not_false, bif_and, bif_or, Bool.not_not, ne_eq, Decidable.not_not, not_true_eq_false, not_false_eq_true, Int.not_le, Int.not_lt] at hc20)
                  rw [if_neg (fun q => q hc20)] at hd
                  refine awp_skip ?_
                  change Awp _ _ _ _ _
                  refine awp_seq ?_
                  refine awp_region 8 mixed (by kernel_rfl) ?_
                  refine rg_q (q_move (x := .d (.v _)) rfl) ?_
                  refine rg_q (q_eql rfl rfl) ?_
                  refine rg_q (q_move (x := .d (.v _)) rfl) ?_
                  refine rg_g rfl rfl (fun hG => (q_fieldAddr_ref fld49_1 rfl)) ?_
                  refine rg_g rfl rfl (fun hG => (q_load_ref sz3 rfl rfl rfl)) ?_
                  refine rg_g rfl rfl (fun hG => (q_move (x := .d (.v _)) rfl)) ?_
                  refine rg_g rfl rfl (fun hG => (q_lss rfl rfl)) ?_
                  refine rg_pick rfl rfl rfl rfl rfl rfl ?_
                  refine rg_nil ?_
                  refine aops_nil ?_
                  change Awp _ _ _ _ _
                  refine awp_cond rfl (fun hc22 => ?_) (fun hc22 => ?_)
                  ·
                    (try simp only [decide_eq_true_eq, decide_eq_false_iff_not, Bool.and_eq_true, Bool.or_eq_true, Bool.and_eq_false_iff, Bool.or_eq_false_iff, Bool.not_eq_true', Bool.not_eq_false', Bool.not_true, Bool.not_false, bif_and, bif_or, Bool.not_not, ne_eq, Decidable.not_not, not_true_eq_false, not_false_eq_true, Int.not_le, Int.not_lt] at hc22)
                    rw [if_pos (by omega)] at hd
                    refine awp_region 5 mixed (by kernel_rfl) ?_
                    refine rg_q (q_move (x := .d (.v _)) rfl) ?_
                    refine rg_q (q_fieldAddr_ref fld49_1 rfl) ?_
                    refine rg_q (q_load_ref sz3 rfl rfl rfl) ?_
                    refine rg_q (q_assign (x := .d (.v _)) rfl) ?_
                    refine rg_q (q_assign (x := .d (.v _)) rfl) ?_
                    refine rg_nil ?_
                    refine aops_nil ?_
                    change Awp _ _ _ _ _
                    refine awp_region 2 mixed (by kernel_rfl) ?_
                    refine rg_q (q_add rfl rfl (In64.mk (by omega) (by omega))) ?_
                    refine rg_q (q_move (x := .d (.v _)) rfl) ?_
                    refine rg_nil ?_
                    refine aops_nil ?_
                    refine ⟨(k + 1, k, (sprL (arrL a x p)).1.2), ⟨by simp only; omega, by rw [hf, hd], by simp only; omega⟩, by simp only; omega, ?_⟩
                    exact le_head (ms := []) (by repeat (first | exact Out.head rfl rfl | (refine Out.put ?_ rfl) | (refine Out.site ?_ rfl))) ⟨(by rfl), (by rfl), (by rfl), trivial⟩ trivial rfl rfl rfl rfl
                  ·
                    (try simp only [decide_eq_true_eq, decide_eq_false_iff_not, Bool.and_eq_true, Bool.or_eq_true, Bool.and_eq_false_iff, Bool.or_eq_false_iff, Bool.not_eq_true', Bool.not_eq_false', Bool.not_true, Bool.not_false, bif_and, bif_or, Bool.not_not, ne_eq, Decidable.not_not, not_true_eq_false, not_false_eq_true, Int.not_le, Int.not_lt] at hc22)
                    rw [if_neg (by omega)] at hd
                    refine awp_skip ?_
                    change Awp _ _ _ _ _
                    refine awp_region 2 mixed (by kernel_rfl) ?_
                    refine rg_q (q_add rfl rfl (In64.mk (by omega) (by omega))) ?_
                    refine rg_q (q_move (x := .d (.v _)) rfl) ?_
                    refine rg_nil ?_
                    refine aops_nil ?_
                    refine ⟨(k + 1, b, l), ⟨by simp only; omega, by rw [hf, hd], hb⟩, by simp only; omega, ?_⟩
                    exact le_head (ms := []) (by repeat (first | exact Out.head rfl rfl | (refine Out.put ?_ rfl) | (refine Out.site ?_ rfl))) ⟨(by rfl), (by rfl), (by rfl), trivial⟩ trivial rfl rfl rfl rfl
              ·
                (try simp only [decide_eq_true_eq, decide_eq_false_iff_not, Bool.and_eq_true, Bool.or_eq_true, Bool.and_eq_false_iff, Bool.or_eq_false_iff, Bool.not_eq_true', Bool.not_eq_false', Bool.not_true, Bool.not_false, bif_and, bif_or, Bool.not_not, ne_eq, Decidable.not_not, not_true_eq_false, not_false_eq_true, Int.not_le, Int.not_lt] at hc17)
                obtain ⟨k, b, l⟩ := y
                simp only at hk hf hb hc17
                try simp only [List.length_map] at hc17
                have hkl : k = ps.length := by omega
                have hfin : bstF a x 0 0 0 ps = (b, 0) := by rw [hf, hkl, List.drop_length]; rfl
                refine awp_exit ?_
                change Awp _ _ _ _ _
                refine awp_seq ?_
                refine awp_region 3 mixed (by kernel_rfl) ?_
                refine rg_q (q_move (x := .d (.v _)) rfl) ?_
                refine rg_q (q_assign (x := .d (.v _)) rfl) ?_
                refine rg_q (q_assign (x := .d (.v _)) rfl) ?_
                refine rg_nil ?_
                refine aops_nil ?_
                change Awp _ _ _ _ _
                refine awp_ret ?_
                refine ⟨_, (.cons (.tmp (by exact .d _)) (.cons (.tmp (by exact .d _)) .nil)), ?_⟩
                rw [hz, hu, hfin]; rfl

theorem best_p (a : Lar) (x : Dly) (ps : List (Int × Int)) : PC Tryz.prog 44 [.agg (larC a), .agg (dlyC x), .sl 2 (ps.map shC)] (.tup [.v (.int .i64 ((bstR a x ps).1)), .v (.int .i64 ((bstR a x ps).2))]) := by
  by_cases h : opnE a x = 0
  · exact bestOk_p a x ps h
  · exact bestBad_p a x ps h
set_option maxRecDepth 100000 in
theorem rbest_p (a : Lar) (x : Dly) (ps : List (Int × Int)) (ho : opnE a x = 0) : PC Tryz.prog 46 [.agg (larC a), .agg (dlyC x), .sl 2 (ps.map shC)] (.tup [.v (.int .i64 ((bstN a x ps).1)), .v (.int .i64 ((bstN a x ps).2))]) := by
  obtain ⟨h1, h2, h3⟩ := lop_ok ho
  obtain ⟨_, _, _, _, _, _, t1, t2⟩ := (lar_ok h1).1.md
  have hu : bstN a x ps = if (ps.length : Int) = 0 then (0, 10) else if 20 < (ps.length : Int) then (0, 8) else if plE1 a ps ≠ 0 then (0, plE1 a ps) else bstF a x 0 0 0 ps := rfl
  refine pc_of_awpN Tryz.func46 rfl Tryz.ntmps46 (rs := [.tmp 6, .tmp 7]) Tryz.results46 (by simp) fun w0 hmine hrnd hpn => ?_
  refine awp_seq ?_
  refine awp_region 4 mixed (by kernel_rfl) ?_
  refine rg_q (q_box rfl (by exact .inr ⟨_, rfl⟩)) ?_
  refine rg_q (q_box rfl (by exact .inr ⟨_, rfl⟩)) ?_
  refine rg_q (q_assign (x := .d (.v _)) rfl) ?_
  refine rg_q (q_assign (x := .d (.v _)) rfl) ?_
  refine rg_nil ?_
  refine aops_nil ?_
  change Awp _ _ _ _ _
  refine awp_seq ?_
  refine awp_seq ?_
  refine awp_region 3 mixed (by kernel_rfl) ?_
  refine rg_q (q_move (x := .d (.sl _ _)) rfl) ?_
  refine rg_q (q_len isl22 rfl (by exact len_map _ _)) ?_
  refine rg_q (q_eql rfl rfl) ?_
  refine rg_nil ?_
  refine aops_nil ?_
  change Awp _ _ _ _ _
  refine awp_len (t := 15) rfl (fun hl15 => ?_)
  (try simp only [List.length_map] at hl15)
  refine awp_cond rfl (fun hc1 => ?_) (fun hc1 => ?_)
  ·
    (try simp only [decide_eq_true_eq, decide_eq_false_iff_not, Bool.and_eq_true, Bool.or_eq_true, Bool.and_eq_false_iff, Bool.or_eq_false_iff, Bool.not_eq_true', Bool.not_eq_false', Bool.not_true, Bool.not_false, bif_and, bif_or, Bool.not_not, ne_eq, Decidable.not_not, not_true_eq_false, not_false_eq_true, Int.not_le, Int.not_lt] at hc1)
    try simp only [List.length_map] at hc1
    rw [if_pos hc1] at hu
    refine awp_seq ?_
    refine awp_region 2 mixed (by kernel_rfl) ?_
    refine rg_q (q_assign (x := .d (.v _)) rfl) ?_
    refine rg_q (q_assign (x := .d (.v _)) rfl) ?_
    refine rg_nil ?_
    refine aops_nil ?_
    change Awp _ _ _ _ _
    refine awp_ret ?_
    refine ⟨_, (.cons (.tmp (by exact .d _)) (.cons (.tmp (by exact .d _)) .nil)), ?_⟩
    rw [hu]; rfl
  ·
    (try simp only [decide_eq_true_eq, decide_eq_false_iff_not, Bool.and_eq_true, Bool.or_eq_true, Bool.and_eq_false_iff, Bool.or_eq_false_iff, Bool.not_eq_true', Bool.not_eq_false', Bool.not_true, Bool.not_false, bif_and, bif_or, Bool.not_not, ne_eq, Decidable.not_not, not_true_eq_false, not_false_eq_true, Int.not_le, Int.not_lt] at hc1)
    try simp only [List.length_map] at hc1
    rw [if_neg hc1] at hu
    refine awp_skip ?_
    change Awp _ _ _ _ _
    refine awp_seq ?_
    refine awp_seq ?_
    refine awp_region 3 mixed (by kernel_rfl) ?_
    refine rg_q (q_move (x := .d (.sl _ _)) rfl) ?_
    refine rg_q (q_len isl22 rfl (by exact len_map _ _)) ?_
    refine rg_q (q_gtr rfl rfl) ?_
    refine rg_nil ?_
    refine aops_nil ?_
    change Awp _ _ _ _ _
    refine awp_len (t := 18) rfl (fun hl18 => ?_)
    (try simp only [List.length_map] at hl18)
    refine awp_cond rfl (fun hc3 => ?_) (fun hc3 => ?_)
    ·
      (try simp only [decide_eq_true_eq, decide_eq_false_iff_not, Bool.and_eq_true, Bool.or_eq_true, Bool.and_eq_false_iff, Bool.or_eq_false_iff, Bool.not_eq_true', Bool.not_eq_false', Bool.not_true, Bool.not_false, bif_and, bif_or, Bool.not_not, ne_eq, Decidable.not_not, not_true_eq_false, not_false_eq_true, Int.not_le, Int.not_lt] at hc3)
      try simp only [List.length_map] at hc3
      rw [if_pos hc3] at hu
      refine awp_seq ?_
      refine awp_region 2 mixed (by kernel_rfl) ?_
      refine rg_q (q_assign (x := .d (.v _)) rfl) ?_
      refine rg_q (q_assign (x := .d (.v _)) rfl) ?_
      refine rg_nil ?_
      refine aops_nil ?_
      change Awp _ _ _ _ _
      refine awp_ret ?_
      refine ⟨_, (.cons (.tmp (by exact .d _)) (.cons (.tmp (by exact .d _)) .nil)), ?_⟩
      rw [hu]; rfl
    ·
      (try simp only [decide_eq_true_eq, decide_eq_false_iff_not, Bool.and_eq_true, Bool.or_eq_true, Bool.and_eq_false_iff, Bool.or_eq_false_iff, Bool.not_eq_true', Bool.not_eq_false', Bool.not_true, Bool.not_false, bif_and, bif_or, Bool.not_not, ne_eq, Decidable.not_not, not_true_eq_false, not_false_eq_true, Int.not_le, Int.not_lt] at hc3)
      try simp only [List.length_map] at hc3
      rw [if_neg (by omega)] at hu
      refine awp_skip ?_
      change Awp _ _ _ _ _
      refine awp_seq ?_
      refine awp_seq ?_
      refine awp_region 1 mixed (by kernel_rfl) ?_
      refine rg_q (q_assign (x := .d (.v _)) rfl) ?_
      refine rg_nil ?_
      refine aops_nil ?_
      change Awp _ _ _ _ _
      refine awp_block ?_
      refine awp_loopH [6, 7, 8, 9, 21, 22, 23, 24, 25, 26, 27, 28, 29, 30, 31, 32, 33, 34, 35] [] (α := Nat) (fun k => [(8, T.i (k : Int))]) (fun k => []) (fun k => k ≤ ps.length ∧ plE1 a ps = plE1 a (ps.drop k)) (fun k => ps.length - k) 0 ⟨Nat.zero_le _, rfl⟩ ?_ ?_
      · exact le_head (ms := []) (by repeat (exact Out.refl _)) ⟨(by rfl), trivial⟩ trivial rfl rfl rfl rfl
      ·
        intro k ⟨hk, hf⟩
        refine awp_seq ?_
        refine awp_seq ?_
        refine awp_region 4 mixed (by kernel_rfl) ?_
        refine rg_q (q_move (x := .d (.v _)) rfl) ?_
        refine rg_q (q_move (x := .d (.sl _ _)) rfl) ?_
        refine rg_q (q_len isl22 rfl (by exact len_map _ _)) ?_
        refine rg_q (q_lss rfl rfl) ?_
        refine rg_nil ?_
        refine aops_nil ?_
        change Awp _ _ _ _ _
        refine awp_len (t := 22) rfl (fun hl22 => ?_)
        (try simp only [List.length_map] at hl22)
        refine awp_cond rfl (fun hc6 => ?_) (fun hc6 => ?_)
        ·
          (try simp only [decide_eq_true_eq, decide_eq_false_iff_not, Bool.and_eq_true, Bool.or_eq_true, Bool.and_eq_false_iff, Bool.or_eq_false_iff, Bool.not_eq_true', Bool.not_eq_false', Bool.not_true, Bool.not_false, bif_and, bif_or, Bool.not_not, ne_eq, Decidable.not_not, not_true_eq_false, not_false_eq_true, Int.not_le, Int.not_lt] at hc6)
          try simp only [List.length_map] at hc6
          have hlt : k < ps.length := by omega
          obtain ⟨p, hx⟩ : ∃ p, ps[k]? = some p := ⟨_, List.getElem?_eq_getElem hlt⟩
          have hd := plE1_at (a := a) hx
          refine awp_skip ?_
          change Awp _ _ _ _ _
          refine awp_seq ?_
          refine awp_block ?_
          refine awp_seq ?_
          refine awp_region 7 mixed (by kernel_rfl) ?_
          refine rg_q (q_loadA (ds := [_, _, _, _, _, _]) sz26 rfl rfl rfl) ?_
          refine rg_q (q_move (x := .d (.sl _ _)) rfl) ?_
          refine rg_q (q_move (x := .d (.v _)) rfl) ?_
          refine rg_q (q_indexAddr sl22 rfl rfl (by omega) (map_at (by omega) hx)) ?_
          refine rg_q (q_loadA (ds := [_, _]) sz28 rfl rfl rfl) ?_
          refine rg_q (q_call en22 (.cons rfl (.cons rfl .nil)) rfl (rplaceErr_p a p t1 t2)) ?_
          refine rg_q (q_assign (x := .d (.v _)) rfl) ?_
          refine rg_nil ?_
          refine aops_nil ?_
          change Awp _ _ _ _ _
          refine awp_seq ?_
          refine awp_region 2 mixed (by kernel_rfl) ?_
          refine rg_q (q_move (x := .d (.v _)) rfl) ?_
          refine rg_q (q_neq rfl rfl) ?_
          refine rg_nil ?_
          refine aops_nil ?_
          change Awp _ _ _ _ _
          refine awp_cond rfl (fun hc9 => ?_) (fun hc9 => ?_)
          ·
            (try simp only [decide_eq_true_eq, decide_eq_false_iff_not, Bool.and_eq_true, Bool.or_eq_true, Bool.and_eq_false_iff, Bool.or_eq_false_iff, Bool.not_eq_true', Bool.not_eq_false', Bool.not_true, Bool.not_false, bif_and, bif_or, Bool.not_not, ne_eq, Decidable.not_not, not_true_eq_false, not_false_eq_true, Int.not_le, Int.not_lt] at hc9)
            have he : plE1 a ps = plcE a p := by rw [hf, hd, if_pos hc9]
            rw [he, if_pos hc9] at hu
            refine awp_seq ?_
            refine awp_region 3 mixed (by kernel_rfl) ?_
            refine rg_q (q_move (x := .d (.v _)) rfl) ?_
            refine rg_q (q_assign (x := .d (.v _)) rfl) ?_
            refine rg_q (q_assign (x := .d (.v _)) rfl) ?_
            refine rg_nil ?_
            refine aops_nil ?_
            change Awp _ _ _ _ _
            refine awp_ret ?_
            refine ⟨_, (.cons (.tmp (by exact .d _)) (.cons (.tmp (by exact .d _)) .nil)), ?_⟩
            rw [hu]; rfl
          ·
            (try simp only [decide_eq_true_eq, decide_eq_false_iff_not, Bool.and_eq_true, Bool.or_eq_true, Bool.and_eq_false_iff, Bool.or_eq_false_iff, Bool.not_eq_true', Bool.not_eq_false', Bool.not_true, Bool.not_false, bif_and, bif_or, Bool.not_not, ne_eq, Decidable.not_not, not_true_eq_false, not_false_eq_true, Int.not_le, Int.not_lt] at hc9)
            have hdn : plE1 a ps = plE1 a (ps.drop (k + 1)) := by rw [hf, hd, if_neg (fun q => q hc9)]
            refine awp_skip ?_
            change Awp _ _ _ _ _
            refine awp_region 3 mixed (by kernel_rfl) ?_
            refine rg_q (q_move (x := .d (.v _)) rfl) ?_
            refine rg_q (q_add rfl rfl (In64.mk (by omega) (by omega))) ?_
            refine rg_q (q_assign (x := .d (.v _)) rfl) ?_
            refine rg_nil ?_
            refine aops_nil ?_
            refine ⟨k + 1, ⟨by omega, hdn⟩, by omega, ?_⟩
            exact le_head (ms := []) (by repeat (first | exact Out.head rfl rfl | (refine Out.put ?_ rfl))) ⟨(by rfl), trivial⟩ trivial rfl rfl rfl rfl
        ·
          (try simp only [decide_eq_true_eq, decide_eq_false_iff_not, Bool.and_eq_true, Bool.or_eq_true, Bool.and_eq_false_iff, Bool.or_eq_false_iff, Bool.not_eq_true', Bool.not_eq_false', Bool.not_true, Bool.not_false, bif_and, bif_or, Bool.not_not, ne_eq, Decidable.not_not, not_true_eq_false, not_false_eq_true, Int.not_le, Int.not_lt] at hc6)
          try simp only [List.length_map] at hc6
          have hkl : k = ps.length := by omega
          have he0 : plE1 a ps = 0 := by rw [hf, hkl, List.drop_length]; rfl
          rw [if_neg (fun q => q he0)] at hu
          refine awp_exit ?_
          change Awp _ _ _ _ _
          refine awp_seq ?_
          refine awp_region 2 mixed (by kernel_rfl) ?_
          refine rg_q (q_assign (x := .d (.v _)) rfl) ?_
          refine rg_q (q_assign (x := .d (.v _)) rfl) ?_
          refine rg_nil ?_
          refine aops_nil ?_
          change Awp _ _ _ _ _
          refine awp_seq ?_
          refine awp_seq ?_
          refine awp_region 1 mixed (by kernel_rfl) ?_
          refine rg_q (q_assign (x := .d (.v _)) rfl) ?_
          refine rg_nil ?_
          refine aops_nil ?_
          change Awp _ _ _ _ _
          refine awp_block ?_
          refine awp_loopH [6, 7, 10, 11, 12, 13, 14, 36, 37, 38, 39, 40, 41, 42, 43, 44, 45, 46, 47, 48, 49, 50, 51, 52, 53, 54, 55, 56, 57, 58, 59, 60, 61, 62, 63, 64, 65] [] (α := Nat × Int × Int) (fun y => [(12, T.i (y.1 : Int)), (10, T.i y.2.2), (11, T.i (atI y.1 y.2.1))]) (fun y => []) (fun y => y.1 ≤ ps.length ∧ bstF a x 0 0 0 ps = bstF a x y.1 y.2.1 y.2.2 (ps.drop y.1) ∧ 0 ≤ y.2.1) (fun y => ps.length - y.1) (0, 0, 0) ⟨Nat.zero_le _, rfl, Int.le_refl _⟩ ?_ ?_
          · exact le_head (ms := []) (by repeat (exact Out.refl _)) ⟨(by rfl), (by rfl), (by rfl), trivial⟩ trivial rfl rfl rfl rfl
          ·
            intro y ⟨hk, hf, hb⟩
            refine awp_seq ?_
            refine awp_seq ?_
            refine awp_region 4 mixed (by kernel_rfl) ?_
            refine rg_q (q_move (x := .d (.v _)) rfl) ?_
            refine rg_q (q_move (x := .d (.sl _ _)) rfl) ?_
            refine rg_q (q_len isl22 rfl (by exact len_map _ _)) ?_
            refine rg_q (q_lss rfl rfl) ?_
            refine rg_nil ?_
            refine aops_nil ?_
            change Awp _ _ _ _ _
            refine awp_len (t := 37) rfl (fun hl37 => ?_)
            (try simp only [List.length_map] at hl37)
            refine awp_cond rfl (fun hc13 => ?_) (fun hc13 => ?_)
            ·
              (try simp only [decide_eq_true_eq, decide_eq_false_iff_not, Bool.and_eq_true, Bool.or_eq_true, Bool.and_eq_false_iff, Bool.or_eq_false_iff, Bool.not_eq_true', Bool.not_eq_false', Bool.not_true, Bool.not_false, bif_and, bif_or, Bool.not_not, ne_eq, Decidable.not_not, not_true_eq_false, not_false_eq_true, Int.not_le, Int.not_lt] at hc13)
              obtain ⟨k, b, l⟩ := y
              simp only at hk hf hb hc13
              try simp only [List.length_map] at hc13
              have hlt : k < ps.length := by omega
              obtain ⟨p, hx⟩ : ∃ p, ps[k]? = some p := ⟨_, List.getElem?_eq_getElem hlt⟩
              have hp := plE1_ok he0 p (List.mem_of_getElem? hx)
              have hd := bstF_at (a := a) (x := x) (i := k) (b := b) (l := l) hx
              have hat : atI k b < 0 ↔ k = 0 := by unfold atI; split <;> omega
              refine awp_skip ?_
              change Awp _ _ _ _ _
              refine awp_seq ?_
              refine awp_block ?_
              refine awp_seq ?_
              refine awp_regionM 13 [none, none, none, none, none, none, none, none, none, none, some 13, some 13, none] mixed (by kernel_rfl) ?_
              refine rgm_q rfl (q_loadA (ds := [_, _, _, _, _, _]) sz26 rfl rfl rfl) ?_
              refine rgm_q rfl (q_loadA (ds := [_, _]) sz33 rfl rfl rfl) ?_
              refine rgm_q rfl (q_move (x := .d (.sl _ _)) rfl) ?_
              refine rgm_q rfl (q_move (x := .d (.v _)) rfl) ?_
              refine rgm_q rfl (q_indexAddr sl22 rfl rfl (by omega) (map_at (by omega) hx)) ?_
              refine rgm_q rfl (q_loadA (ds := [_, _]) sz28 rfl rfl rfl) ?_
              refine rgm_q rfl (q_call en29 (.cons rfl (.cons rfl (.cons rfl .nil))) rfl (rspread_p a x p ho hp)) ?_
              refine rgm_q rfl (q_move (x := .d (.tup _)) rfl) ?_
              refine rgm_q rfl (q_extract rfl rfl) ?_
              refine rgm_q rfl (q_extract rfl rfl) ?_
              refine rgm_m (k := 13) rfl rfl (by rfl) (m_alloc zr49 rfl rfl) ?_
              refine rgm_m (k := 13) rfl rfl (by rfl) (m_store sz49 rfl rfl (by exact .inr ⟨_, rfl⟩) rfl rfl (by decide) rfl) ?_
              refine rgm_q rfl (q_assign (x := .d (.v _)) rfl) ?_
              refine rgm_nil ?_
              refine aops_nil ?_
              change Awp _ _ _ _ _
              refine awp_seq ?_
              refine awp_seq ?_
              refine awp_region 2 mixed (by kernel_rfl) ?_
              refine rg_q (q_move (x := .d (.v _)) rfl) ?_
              refine rg_q (q_neq rfl rfl) ?_
              refine rg_nil ?_
              refine aops_nil ?_
              change Awp _ _ _ _ _
              refine awp_cond rfl (fun hc16 => ?_) (fun hc16 => ?_)
              ·
                (try simp only [decide_eq_true_eq, decide_eq_false_iff_not, Bool.and_eq_true, Bool.or_eq_true, Bool.and_eq_false_iff, Bool.or_eq_false_iff, Bool.not_eq_true', Bool.not_eq_false', Bool.not_true, Bool.not_false, bif_and, bif_or, Bool.not_not, ne_eq, Decidable.not_not, not_true_eq_false, not_false_eq_true, Int.not_le, Int.not_lt] at hc16)
                have hfin : bstF a x 0 0 0 ps = (0, (sprL (arrL a x p)).2) := by rw [hf, hd, if_pos hc16]
                refine awp_seq ?_
                refine awp_region 3 mixed (by kernel_rfl) ?_
                refine rg_q (q_move (x := .d (.v _)) rfl) ?_
                refine rg_q (q_assign (x := .d (.v _)) rfl) ?_
                refine rg_q (q_assign (x := .d (.v _)) rfl) ?_
                refine rg_nil ?_
                refine aops_nil ?_
                change Awp _ _ _ _ _
                refine awp_ret ?_
                refine ⟨_, (.cons (.tmp (by exact .d _)) (.cons (.tmp (by exact .d _)) .nil)), ?_⟩
                rw [hu, hfin]; rfl
              ·
                (try simp only [decide_eq_true_eq, decide_eq_false_iff_not, Bool.and_eq_true, Bool.or_eq_true, Bool.and_eq_false_iff, Bool.or_eq_false_iff, Bool.not_eq_true', Bool.not_eq_false', Bool.not_true, Bool.not_false, bif_and, bif_or, Bool.not_not, ne_eq, Decidable.not_not, not_true_eq_false, not_false_eq_true, Int.not_le, Int.not_lt] at hc16)
                rw [if_neg (fun q => q hc16)] at hd
                refine awp_skip ?_
                change Awp _ _ _ _ _
                refine awp_seq ?_
                refine awp_region 8 mixed (by kernel_rfl) ?_
                refine rg_q (q_move (x := .d (.v _)) rfl) ?_
                refine rg_q (q_lss rfl rfl) ?_
                refine rg_q (q_move (x := .d (.v _)) rfl) ?_
                refine rg_g rfl rfl (fun hG => (q_fieldAddr_ref fld49_1 rfl)) ?_
                refine rg_g rfl rfl (fun hG => (q_load_ref sz3 rfl rfl rfl)) ?_
                refine rg_g rfl rfl (fun hG => (q_move (x := .d (.v _)) rfl)) ?_
                refine rg_g rfl rfl (fun hG => (q_lss rfl rfl)) ?_
                refine rg_pick rfl rfl rfl rfl rfl rfl ?_
                refine rg_nil ?_
                refine aops_nil ?_
                change Awp _ _ _ _ _
                refine awp_cond rfl (fun hc18 => ?_) (fun hc18 => ?_)
                ·
                  (try simp only [decide_eq_true_eq, decide_eq_false_iff_not, Bool.and_eq_true, Bool.or_eq_true, Bool.and_eq_false_iff, Bool.or_eq_false_iff, Bool.not_eq_true', Bool.not_eq_false', Bool.not_true, Bool.not_false, bif_and, bif_or, Bool.not_not, ne_eq, Decidable.not_not, not_true_eq_false, not_false_eq_true, Int.not_le, Int.not_lt] at hc18)
                  rw [if_pos (by rw [hat] at hc18; exact hc18)] at hd
                  refine awp_region 5 mixed (by kernel_rfl) ?_
                  refine rg_q (q_fieldAddr_ref fld49_1 rfl) ?_
                  refine rg_q (q_load_ref sz3 rfl rfl rfl) ?_
                  refine rg_q (q_move (x := .d (.v _)) rfl) ?_
                  refine rg_q (q_assign (x := .d (.v _)) rfl) ?_
                  refine rg_q (q_assign (x := .d (.v _)) rfl) ?_
                  refine rg_nil ?_
                  refine aops_nil ?_
                  change Awp _ _ _ _ _
                  refine awp_region 3 mixed (by kernel_rfl) ?_
                  refine rg_q (q_move (x := .d (.v _)) rfl) ?_
                  refine rg_q (q_add rfl rfl (In64.mk (by omega) (by omega))) ?_
                  refine rg_q (q_assign (x := .d (.v _)) rfl) ?_
                  refine rg_nil ?_
                  refine aops_nil ?_
                  refine ⟨(k + 1, k, (sprL (arrL a x p)).1.2), ⟨by simp only; omega, by rw [hf, hd], by simp only; omega⟩, by simp only; omega, ?_⟩
                  exact le_head (ms := []) (by repeat (first | exact Out.head rfl rfl | (refine Out.put ?_ rfl) | (refine Out.site ?_ rfl))) ⟨(by rfl), (by rfl), (by rfl), trivial⟩ trivial rfl rfl rfl rfl
                ·
                  (try simp only [decide_eq_true_eq, decide_eq_false_iff_not, Bool.and_eq_true, Bool.or_eq_true, Bool.and_eq_false_iff, Bool.or_eq_false_iff, Bool.not_eq_true', Bool.not_eq_false', Bool.not_true, Bool.not_false, bif_and, bif_or, Bool.not_not, ne_eq, Decidable.not_not, not_true_eq_false, not_false_eq_true, Int.not_le, Int.not_lt] at hc18)
                  have hk0 : k ≠ 0 := fun e => by have := hat.2 e; omega
                  have hat2 : atI k b = b := by unfold atI; rw [if_neg hk0]
                  rw [if_neg (by omega)] at hd
                  have hat3 : atI (k + 1) b = b := by unfold atI; rw [if_neg (by omega)]
                  rw [hat2]
                  refine awp_skip ?_
                  change Awp _ _ _ _ _
                  refine awp_region 3 mixed (by kernel_rfl) ?_
                  refine rg_q (q_move (x := .d (.v _)) rfl) ?_
                  refine rg_q (q_add rfl rfl (In64.mk (by omega) (by omega))) ?_
                  refine rg_q (q_assign (x := .d (.v _)) rfl) ?_
                  refine rg_nil ?_
                  refine aops_nil ?_
                  refine ⟨(k + 1, b, l), ⟨by simp only; omega, by rw [hf, hd], hb⟩, by simp only; omega, ?_⟩
                  exact le_head (ms := []) (by repeat (first | exact Out.head rfl rfl | (refine Out.put ?_ rfl) | (refine Out.site ?_ rfl))) ⟨(by rfl), (by rfl), (by rfl), trivial⟩ trivial rfl rfl rfl rfl
            ·
              (try simp only [decide_eq_true_eq, decide_eq_false_iff_not, Bool.and_eq_true, Bool.or_eq_true, Bool.and_eq_false_iff, Bool.or_eq_false_iff, Bool.not_eq_true', Bool.not_eq_false', Bool.not_true, Bool.not_false, bif_and, bif_or, Bool.not_not, ne_eq, Decidable.not_not, not_true_eq_false, not_false_eq_true, Int.not_le, Int.not_lt] at hc13)
              obtain ⟨k, b, l⟩ := y
              simp only at hk hf hb hc13
              try simp only [List.length_map] at hc13
              have hkl : k = ps.length := by omega
              have hfin : bstF a x 0 0 0 ps = (b, 0) := by rw [hf, hkl, List.drop_length]; rfl
              have hat : atI k b = b := by unfold atI; rw [if_neg (by omega)]
              refine awp_exit ?_
              change Awp _ _ _ _ _
              refine awp_seq ?_
              refine awp_region 3 mixed (by kernel_rfl) ?_
              refine rg_q (q_move (x := .d (.v _)) rfl) ?_
              refine rg_q (q_assign (x := .d (.v _)) rfl) ?_
              refine rg_q (q_assign (x := .d (.v _)) rfl) ?_
              refine rg_nil ?_
              refine aops_nil ?_
              change Awp _ _ _ _ _
              refine awp_ret ?_
              refine ⟨_, (.cons (.tmp (by exact .d _)) (.cons (.tmp (by exact .d _)) .nil)), ?_⟩
              rw [hu, hfin, hat]; rfl
set_option maxRecDepth 100000 in
theorem lawBest_p (a : Lar) (x : Dly) (ps : List (Int × Int)) : PCG Tryz.prog GW 8 [.agg (larC a), .agg (dlyC x), .sl 2 (ps.map shC)] (.v (.bool (true))) := by
  refine pcg_of_awpN gw_keep Tryz.func8 rfl Tryz.ntmps8 (rs := [.tmp 6]) Tryz.results8 (by simp) fun w0 hmine hrnd hpn hG => ?_
  refine awp_seq ?_
  refine awp_region 3 mixed (by kernel_rfl) ?_
  refine rg_q (q_box rfl (by exact .inr ⟨_, rfl⟩)) ?_
  refine rg_q (q_box rfl (by exact .inr ⟨_, rfl⟩)) ?_
  refine rg_q (q_assign (x := .d (.v _)) rfl) ?_
  refine rg_nil ?_
  refine aops_nil ?_
  change Awp _ _ _ _ _
  refine awp_seq ?_
  refine awp_seq ?_
  refine awp_region 2 mixed (by kernel_rfl) ?_
  refine rg_q (q_callG en17 .nil rfl hG (awake_p)) ?_
  refine rg_q (q_not rfl) ?_
  refine rg_nil ?_
  refine aops_nil ?_
  change Awp _ _ _ _ _
  refine awp_cond rfl (fun hc1 => ?_) (fun hc1 => ?_)
  ·
    simp at hc1
  ·
    (try simp only [decide_eq_true_eq, decide_eq_false_iff_not, Bool.and_eq_true, Bool.or_eq_true, Bool.and_eq_false_iff, Bool.or_eq_false_iff, Bool.not_eq_true', Bool.not_eq_false', Bool.not_true, Bool.not_false, bif_and, bif_or, Bool.not_not, ne_eq, Decidable.not_not, not_true_eq_false, not_false_eq_true, Int.not_le, Int.not_lt] at hc1)
    refine awp_skip ?_
    change Awp _ _ _ _ _
    refine awp_seq ?_
    refine awp_seq ?_
    refine awp_region 27 mixed (by kernel_rfl) ?_
    refine rg_q (q_fieldAddr fld26_0 rfl) ?_
    refine rg_q (q_load sz22 rfl rfl) ?_
    refine rg_q (q_len isl22 rfl (by exact len_map _ _)) ?_
    refine rg_q (q_call en18 (.cons rfl .nil) rfl (few_p _)) ?_
    refine rg_q (q_not rfl) ?_
    refine rg_q (q_move (x := .d (.v _)) rfl) ?_
    refine rg_g rfl rfl (fun hG => (q_fieldAddr fld33_1 rfl)) ?_
    refine rg_g rfl rfl (fun hG => (q_load sz31 rfl rfl)) ?_
    refine rg_g rfl rfl (fun hG => (q_len isl31 rfl (by exact len_map _ _))) ?_
    refine rg_g rfl rfl (fun hG => (q_call en18 (.cons rfl .nil) rfl (few_p _))) ?_
    refine rg_g rfl rfl (fun hG => (q_not rfl)) ?_
    refine rg_pick rfl rfl rfl rfl rfl rfl ?_
    refine rg_q (q_move (x := .d (.v _)) rfl) ?_
    refine rg_g rfl rfl (fun hG => (q_move (x := .d (.sl _ _)) rfl)) ?_
    refine rg_g rfl rfl (fun hG => (q_len isl22 rfl (by exact len_map _ _))) ?_
    refine rg_g rfl rfl (fun hG => (q_gtr rfl rfl)) ?_
    refine rg_g rfl rfl (fun hG => (q_move (x := .d (.v _)) rfl)) ?_
    refine rg_g rfl rfl (fun hG => (q_move (x := .d (.sl _ _)) rfl)) ?_
    refine rg_g rfl rfl (fun hG => (q_len isl22 rfl (by exact len_map _ _))) ?_
    refine rg_g rfl rfl (fun hG => (q_leq rfl rfl)) ?_
    refine rg_pickg rfl rfl rfl rfl rfl rfl rfl rfl ?_
    refine rg_pick rfl rfl rfl rfl rfl rfl ?_
    refine rg_q (q_move (x := .d (.v _)) rfl) ?_
    refine rg_g rfl rfl (fun hG => (q_move (x := .d (.sl _ _)) rfl)) ?_
    refine rg_g rfl rfl (fun hG => (q_len isl22 rfl (by exact len_map _ _))) ?_
    refine rg_g rfl rfl (fun hG => (q_gtr rfl rfl)) ?_
    refine rg_pick rfl rfl rfl rfl rfl rfl ?_
    refine rg_nil ?_
    refine aops_nil ?_
    change Awp _ _ _ _ _
    refine awp_len (t := 14) rfl (fun hl14 => ?_)
    (try simp only [List.length_map] at hl14)
    refine awp_cond rfl (fun hc3 => ?_) (fun hc3 => ?_)
    ·
      (try simp only [decide_eq_true_eq, decide_eq_false_iff_not, Bool.and_eq_true, Bool.or_eq_true, Bool.and_eq_false_iff, Bool.or_eq_false_iff, Bool.not_eq_true', Bool.not_eq_false', Bool.not_true, Bool.not_false, bif_and, bif_or, Bool.not_not, ne_eq, Decidable.not_not, not_true_eq_false, not_false_eq_true, Int.not_le, Int.not_lt] at hc3)
      refine awp_seq ?_
      refine awp_region 1 mixed (by kernel_rfl) ?_
      refine rg_q (q_assign (x := .d (.v _)) rfl) ?_
      refine rg_nil ?_
      refine aops_nil ?_
      change Awp _ _ _ _ _
      refine awp_ret ?_
      refine ⟨_, (.cons (.tmp (by exact .d _)) .nil), ?_⟩
      rfl
    ·
      (try simp only [decide_eq_true_eq, decide_eq_false_iff_not, Bool.and_eq_true, Bool.or_eq_true, Bool.and_eq_false_iff, Bool.or_eq_false_iff, Bool.not_eq_true', Bool.not_eq_false', Bool.not_true, Bool.not_false, bif_and, bif_or, Bool.not_not, ne_eq, Decidable.not_not, not_true_eq_false, not_false_eq_true, Int.not_le, Int.not_lt] at hc3)
      try simp only [List.length_map] at hc3
      have hl1 : a.el.length ≤ 18 := by omega
      have hl2 : x.tk.length ≤ 18 := by omega
      have hl3 : ps.length ≤ 22 := by omega
      refine awp_skip ?_
      change Awp _ _ _ _ _
      refine awp_seq ?_
      refine awp_region 12 mixed (by kernel_rfl) ?_
      refine rg_q (q_loadA (ds := [_, _, _, _, _, _]) sz26 rfl rfl rfl) ?_
      refine rg_q (q_call en20 (.cons rfl .nil) rfl (copyLar_p _ (by omega))) ?_
      refine rg_q (q_loadA (ds := [_, _]) sz33 rfl rfl rfl) ?_
      refine rg_q (q_call en26 (.cons rfl .nil) rfl (copyLaw_p _ (by omega))) ?_
      refine rg_q (q_move (x := .d (.sl _ _)) rfl) ?_
      refine rg_q (q_call en45 (.cons rfl .nil) rfl (copySpots_p _ (by omega))) ?_
      refine rg_q (q_call en44 (.cons rfl (.cons rfl (.cons rfl .nil))) rfl (best_p _ _ _)) ?_
      refine rg_q (q_move (x := .d (.tup _)) rfl) ?_
      refine rg_q (q_extract rfl rfl) ?_
      refine rg_q (q_extract rfl rfl) ?_
      refine rg_q (q_assign (x := .d (.v _)) rfl) ?_
      refine rg_q (q_assign (x := .d (.v _)) rfl) ?_
      refine rg_nil ?_
      refine aops_nil ?_
      change Awp _ _ _ _ _
      refine awp_seq ?_
      refine awp_region 4 mixed (by kernel_rfl) ?_
      refine rg_q (q_loadA (ds := [_, _, _, _, _, _]) sz26 rfl rfl rfl) ?_
      refine rg_q (q_loadA (ds := [_, _]) sz33 rfl rfl rfl) ?_
      refine rg_q (q_call en28 (.cons rfl (.cons rfl .nil)) rfl (pairErr_p _ _)) ?_
      refine rg_q (q_assign (x := .d (.v _)) rfl) ?_
      refine rg_nil ?_
      refine aops_nil ?_
      change Awp _ _ _ _ _
      refine awp_seq ?_
      refine awp_region 1 mixed (by kernel_rfl) ?_
      refine rg_q (q_assign (x := .d (.v _)) rfl) ?_
      refine rg_nil ?_
      refine aops_nil ?_
      change Awp _ _ _ _ _
      refine awp_seq ?_
      refine awp_seq ?_
      refine awp_region 2 mixed (by kernel_rfl) ?_
      refine rg_q (q_move (x := .d (.v _)) rfl) ?_
      refine rg_q (q_eql rfl rfl) ?_
      refine rg_nil ?_
      refine aops_nil ?_
      change Awp _ _ _ _ _
      refine awp_cond rfl (fun hc8 => ?_) (fun hc8 => ?_)
      ·
        (try simp only [decide_eq_true_eq, decide_eq_false_iff_not, Bool.and_eq_true, Bool.or_eq_true, Bool.and_eq_false_iff, Bool.or_eq_false_iff, Bool.not_eq_true', Bool.not_eq_false', Bool.not_true, Bool.not_false, bif_and, bif_or, Bool.not_not, ne_eq, Decidable.not_not, not_true_eq_false, not_false_eq_true, Int.not_le, Int.not_lt] at hc8)
        have ho : opnE a x = 0 := by omega
        have hz : bstR a x ps = bstN a x ps := by unfold bstR; rw [if_neg (fun q => q ho)]
        refine awp_region 9 mixed (by kernel_rfl) ?_
        refine rg_q (q_loadA (ds := [_, _, _, _, _, _]) sz26 rfl rfl rfl) ?_
        refine rg_q (q_loadA (ds := [_, _]) sz33 rfl rfl rfl) ?_
        refine rg_q (q_move (x := .d (.sl _ _)) rfl) ?_
        refine rg_q (q_call en46 (.cons rfl (.cons rfl (.cons rfl .nil))) rfl (rbest_p a x ps ho)) ?_
        refine rg_q (q_move (x := .d (.tup _)) rfl) ?_
        refine rg_q (q_extract rfl rfl) ?_
        refine rg_q (q_extract rfl rfl) ?_
        refine rg_q (q_assign (x := .d (.v _)) rfl) ?_
        refine rg_q (q_assign (x := .d (.v _)) rfl) ?_
        refine rg_nil ?_
        refine aops_nil ?_
        change Awp _ _ _ _ _
        refine awp_seq ?_
        refine awp_region 9 mixed (by kernel_rfl) ?_
        refine rg_q (q_move (x := .d (.v _)) rfl) ?_
        refine rg_q (q_move (x := .d (.v _)) rfl) ?_
        refine rg_q (q_eql rfl rfl) ?_
        refine rg_q (q_move (x := .d (.v _)) rfl) ?_
        refine rg_g rfl rfl (fun hG => (q_move (x := .d (.v _)) rfl)) ?_
        refine rg_g rfl rfl (fun hG => (q_move (x := .d (.v _)) rfl)) ?_
        refine rg_g rfl rfl (fun hG => (q_eql rfl rfl)) ?_
        refine rg_pick rfl rfl rfl rfl rfl rfl ?_
        refine rg_q (q_assign (x := .d (.v _)) rfl) ?_
        refine rg_nil ?_
        refine aops_nil ?_
        change Awp _ _ _ _ _
        refine awp_ret ?_
        refine ⟨_, (.cons (.tmp (by exact .d _)) .nil), ?_⟩
        rw [hz]; simp [retD]
      ·
        (try simp only [decide_eq_true_eq, decide_eq_false_iff_not, Bool.and_eq_true, Bool.or_eq_true, Bool.and_eq_false_iff, Bool.or_eq_false_iff, Bool.not_eq_true', Bool.not_eq_false', Bool.not_true, Bool.not_false, bif_and, bif_or, Bool.not_not, ne_eq, Decidable.not_not, not_true_eq_false, not_false_eq_true, Int.not_le, Int.not_lt] at hc8)
        have hz : bstR a x ps = (0, opnE a x) := by unfold bstR; rw [if_pos hc8]
        refine awp_skip ?_
        change Awp _ _ _ _ _
        refine awp_seq ?_
        refine awp_region 9 mixed (by kernel_rfl) ?_
        refine rg_q (q_move (x := .d (.v _)) rfl) ?_
        refine rg_q (q_move (x := .d (.v _)) rfl) ?_
        refine rg_q (q_eql rfl rfl) ?_
        refine rg_q (q_move (x := .d (.v _)) rfl) ?_
        refine rg_g rfl rfl (fun hG => (q_move (x := .d (.v _)) rfl)) ?_
        refine rg_g rfl rfl (fun hG => (q_move (x := .d (.v _)) rfl)) ?_
        refine rg_g rfl rfl (fun hG => (q_eql rfl rfl)) ?_
        refine rg_pick rfl rfl rfl rfl rfl rfl ?_
        refine rg_q (q_assign (x := .d (.v _)) rfl) ?_
        refine rg_nil ?_
        refine aops_nil ?_
        change Awp _ _ _ _ _
        refine awp_ret ?_
        refine ⟨_, (.cons (.tmp (by exact .d _)) .nil), ?_⟩
        rw [hz]; simp [retD]
end Go.Proofs.YtgeieocphgnipaaGreatDoor.Am.M
