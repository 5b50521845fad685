/- Contracts over the abstract machine: package law: Without. Conditions: none. -/
import Derived.Test.YtgeieocphgnipaaGreatDoorF11
set_option linter.unusedVariables false
set_option linter.unusedSimpArgs false
-- mini
namespace Go.Proofs.YtgeieocphgnipaaGreatDoor.Am.M
open Go
set_option maxRecDepth 100000 in
theorem cloneI_p (L : List Int) (h0 : 0 < L.length) (h1 : L.length ≤ 1000) : PCS Tryz.prog 103 [.d (.sl 1 (L.map iC))] [] (.rs 0) [.row 3 1 (L.map iC)] := by
  refine pcs_of_awp Tryz.func103 rfl Tryz.ntmps103 (rs := [.tmp 2]) Tryz.results103 (by simp) fun w0 => ?_
  refine awp_seq ?_
  refine awp_region 1 mixed (by kernel_rfl) ?_
  refine rg_q (q_assign (x := .d (.sl _ _)) rfl) ?_
  refine rg_nil ?_
  refine aops_nil ?_
  change Awp _ _ _ _ _
  refine awp_seq ?_
  refine awp_seq ?_
  refine awp_region 2 mixed (by kernel_rfl) ?_
  refine rg_q (q_move (x := .d (.sl _ _)) rfl) ?_
  refine rg_q (q_eqnil_sl sl31 rfl (by (try simp only [List.length_map]); omega)) ?_
  refine rg_nil ?_
  refine aops_nil ?_
  change Awp _ _ _ _ _
  refine awp_cond rfl (fun hc1 => ?_) (fun hc1 => ?_)
  ·
    exfalso; (try simp only [decide_eq_true_eq, decide_eq_false_iff_not, Bool.and_eq_true, Bool.or_eq_true, Bool.and_eq_false_iff, Bool.or_eq_false_iff, Bool.not_eq_true', Bool.not_eq_false', Bool.not_true, Bool.not_false, bif_and, bif_or, Bool.not_not, ne_eq, Decidable.not_not, not_true_eq_false, not_false_eq_true, Int.not_le, Int.not_lt] at hc1); simp_all
  ·
    (try simp only [decide_eq_true_eq, decide_eq_false_iff_not, Bool.and_eq_true, Bool.or_eq_true, Bool.and_eq_false_iff, Bool.or_eq_false_iff, Bool.not_eq_true', Bool.not_eq_false', Bool.not_true, Bool.not_false, bif_and, bif_or, Bool.not_not, ne_eq, Decidable.not_not, not_true_eq_false, not_false_eq_true, Int.not_le, Int.not_lt] at hc1)
    refine awp_skip ?_
    change Awp _ _ _ _ _
    refine awp_seq ?_
    refine awp_region 0 mixed (by kernel_rfl) ?_
    refine rg_nil ?_
    refine aops_empty sl31 zr3 rfl rfl ?_
    refine aops_q rfl (q_move (x := .d (.sl _ _)) rfl) ?_
    refine aops_append sl31 zr3 by3 rfl (by decide) rfl rfl rfl rfl (by (try simp only [List.length_map, List.length_append, List.length_cons, List.length_nil]); omega) (by (try simp only [List.length_map, List.length_append, List.length_cons, List.length_nil]); omega) rfl rfl ?_
    refine aops_q rfl (q_assign (x := .rs _) rfl) ?_
    refine aops_nil ?_
    change Awp _ _ _ _ _
    refine awp_ret ?_
    exact end_mk (.inl rfl) [5] (.tmp rfl) (by repeat (first | exact trivial | refine ⟨rfl, ?_⟩)) rfl

theorem iC_flat (x : Int) : ∀ d ∈ iC x, D.Flat d := by
  intro d hd
  simp only [iC, List.mem_cons, List.not_mem_nil, or_false] at hd
  subst hd; exact .v _
theorem setI_map (L : List Int) (k : Nat) (y : Int) {z : List D} (h : z = iC y) : (L.map iC).set k z = (L.set k y).map iC := by rw [h, List.map_set]
/-- The error of the numbers of elements that do not send any more. -/
def dedE (m : Int) : Int → List Int → Int
  | _, [] => 0
  | p, n :: ns => if inR 0 n (m - 1) = false then 6 else if n ≤ p then 9 else dedE m n ns
def prvI (l : List Int) (k : Nat) : Int := if k = 0 then -1 else l.getD (k - 1) 0
theorem prvI_succ {l : List Int} {k : Nat} {y : Int} (h : l[k]? = some y) : prvI l (k + 1) = y := by
  unfold prvI; rw [if_neg (by omega), Nat.add_sub_cancel, List.getD_eq_getElem?_getD, h]; rfl
theorem dedE_at {m : Int} {l : List Int} {k : Nat} {y : Int} (h : l[k]? = some y) : dedE m (prvI l k) (l.drop k) = if inR 0 y (m - 1) = false then 6 else if y ≤ prvI l k then 9 else dedE m (prvI l (k + 1)) (l.drop (k + 1)) := by
  obtain ⟨hlt, hx⟩ := List.getElem?_eq_some_iff.1 h
  rw [List.drop_eq_getElem_cons hlt, hx, prvI_succ h]; rfl
def wthR (x : Dly) (dead : List Int) : Dly × Int := if (ckLaw x).2 ≠ 0 then (⟨0, []⟩, (ckLaw x).2) else if dedE x.tk.length (-1) dead ≠ 0 then (⟨0, []⟩, dedE x.tk.length (-1) dead) else (wth x dead, 0)
theorem wthL_nil (t : List Int) : wthL t [] = t := by
  refine List.ext_getElem? fun i => ?_
  unfold wthL; rw [List.getElem?_mapIdx]; cases t[i]? <;> simp
theorem wthL_snoc {t d : List Int} {k : Nat} {y : Int} (h : d[k]? = some y) (h0 : 0 ≤ y) : (wthL t (d.take k)).set y.toNat (-1) = wthL t (d.take (k + 1)) := by
  obtain ⟨hlt, hx⟩ := List.getElem?_eq_some_iff.1 h
  refine List.ext_getElem? fun i => ?_
  rw [List.getElem?_set, wth_len, List.take_succ_eq_append_getElem hlt, hx]
  unfold wthL
  simp only [List.getElem?_mapIdx]
  cases hi : t[i]? with
  | none =>
    have : t.length ≤ i := List.getElem?_eq_none_iff.1 hi
    simp only [Option.map_none]
    split
    · rw [if_neg (by omega)]
    · rfl
  | some n =>
    have := (List.getElem?_eq_some_iff.1 hi).1
    simp only [Option.map_some, List.any_append, List.any_cons, List.any_nil, Bool.or_false]
    by_cases e : y.toNat = i
    · rw [if_pos e, if_pos (by omega)]
      have : y = (i : Int) := by omega
      simp [this]
    · have : ¬ y = (i : Int) := by omega
      rw [if_neg e]; simp [this]
set_option maxRecDepth 100000 in
theorem without_p (x : Dly) (dead : List Int) : PC Tryz.prog 42 [.agg (dlyC x), .sl 1 (dead.map iC)] (.tup [.agg (dlyC (wthR x dead).1), .v (.int .i64 ((wthR x dead).2))]) := by
  refine pc_of_awpN Tryz.func42 rfl Tryz.ntmps42 (rs := [.cell 4 33, .tmp 5]) Tryz.results42 (by simp) fun w0 hmine hrnd hpn => ?_
  refine awp_seq ?_
  refine awp_region 1 mixed (by kernel_rfl) ?_
  refine rg_q (q_box rfl (by exact .inr ⟨_, rfl⟩)) ?_
  refine rg_nil ?_
  refine aops_alloc zr33 rfl rfl rfl ?_
  refine aops_q rfl (q_assign (x := .d (.v _)) rfl) ?_
  refine aops_nil ?_
  change Awp _ _ _ _ _
  refine awp_seq ?_
  refine awp_seq ?_
  refine awp_region 3 mixed (by kernel_rfl) ?_
  refine rg_q (q_loadA (ds := [_, _]) sz33 rfl rfl rfl) ?_
  refine rg_q (q_call en102 (.cons rfl .nil) rfl (lawErr_p _)) ?_
  refine rg_q (q_assign (x := .d (.v _)) rfl) ?_
  refine rg_nil ?_
  refine aops_nil ?_
  change Awp _ _ _ _ _
  refine awp_seq ?_
  refine awp_region 2 mixed (by kernel_rfl) ?_
  refine rg_q (q_move (x := .d (.v _)) rfl) ?_
  refine rg_q (q_neq rfl rfl) ?_
  refine rg_nil ?_
  refine aops_nil ?_
  change Awp _ _ _ _ _
  refine awp_cond rfl (fun hc2 => ?_) (fun hc2 => ?_)
  ·
    (try simp only [decide_eq_true_eq, decide_eq_false_iff_not, Bool.and_eq_true, Bool.or_eq_true, Bool.and_eq_false_iff, Bool.or_eq_false_iff, Bool.not_eq_true', Bool.not_eq_false', Bool.not_true, Bool.not_false, bif_and, bif_or, Bool.not_not, ne_eq, Decidable.not_not, not_true_eq_false, not_false_eq_true, Int.not_le, Int.not_lt] at hc2)
    have hz : wthR x dead = (⟨0, []⟩, (ckLaw x).2) := by unfold wthR; rw [if_pos hc2]
    refine awp_seq ?_
    refine awp_region 2 mixed (by kernel_rfl) ?_
    refine rg_q (q_build (cs := [_, _]) pl33 zr33 rfl .nil trivial rfl) ?_
    refine rg_q (q_move (x := .d (.v _)) rfl) ?_
    refine rg_nil ?_
    refine aops_store sz33 rfl rfl (by exact .inr ⟨_, rfl⟩) rfl rfl (by decide) rfl ?_
    refine aops_q rfl (q_assign (x := .d (.v _)) rfl) ?_
    refine aops_nil ?_
    change Awp _ _ _ _ _
    refine Awp.le (le_upB 4 (dlyC ⟨0, []⟩) rfl (.cons (.same _) (.cons (.nil 1) .nil))) ?_
    refine awp_ret ?_
    refine ⟨_, (.cons (.cellA rfl rfl sz33 rfl) (.cons (.tmp (by exact .d _)) .nil)), ?_⟩
    rw [hz]; rfl
  ·
    (try simp only [decide_eq_true_eq, decide_eq_false_iff_not, Bool.and_eq_true, Bool.or_eq_true, Bool.and_eq_false_iff, Bool.or_eq_false_iff, Bool.not_eq_true', Bool.not_eq_false', Bool.not_true, Bool.not_false, bif_and, bif_or, Bool.not_not, ne_eq, Decidable.not_not, not_true_eq_false, not_false_eq_true, Int.not_le, Int.not_lt] at hc2)
    have hz0 : (ckLaw x).2 = 0 := by simpa using hc2
    have hok := (ckLaw_ok hz0).1
    have hn1 := hok.n1
    have hn2 := hok.n2
    refine awp_skip ?_
    change Awp _ _ _ _ _
    refine awp_seq ?_
    refine awp_regionM 8 [none, none, none, none, some 20, none, some 7, some 7] mixed (by kernel_rfl) ?_
    refine rgm_q rfl (q_fieldAddr fld33_0 rfl) ?_
    refine rgm_q rfl (q_load sz3 rfl rfl) ?_
    refine rgm_q rfl (q_fieldAddr fld33_1 rfl) ?_
    refine rgm_q rfl (q_load sz31 rfl rfl) ?_
    refine rgm_m (k := 20) rfl rfl (by rfl) (m_callN en103 (cloneI_p x.tk hok.n1 (by have := hok.n2; omega)) rfl (.cons rfl .nil) rfl (flat_row iC 3 1 x.tk iC_flat)) ?_
    refine rgm_q rfl (q_buildR (u := [.int .i64 x.ck]) (v := []) pl33 zr33 rfl (by exact .one rfl rfl (by exact .one rfl rfl .nil)) (by exact ⟨⟨rfl, by decide⟩, ⟨rfl, by decide⟩, trivial⟩) (by rfl)) ?_
    refine rgm_m (k := 7) rfl rfl (by rfl) (m_alloc zr33 rfl rfl) ?_
    refine rgm_m (k := 7) rfl rfl (by rfl) (m_storeAg sz33 rfl rfl rfl rfl rfl rfl rfl) ?_
    refine rgm_nil ?_
    refine aops_nil ?_
    change Awp _ _ _ _ _
    refine awp_seq ?_
    refine awp_seq ?_
    refine awp_region 3 mixed (by kernel_rfl) ?_
    refine rg_q (q_move (x := .d (.sl _ _)) rfl) ?_
    refine rg_q (q_len isl31 rfl (by exact len_map _ _)) ?_
    refine rg_q (q_move (x := .d (.v _)) rfl) ?_
    refine rg_nil ?_
    refine aops_nil ?_
    change Awp _ _ _ _ _
    refine awp_len (t := 22) rfl (fun hl22 => ?_)
    (try simp only [List.length_map] at hl22)
    refine awp_block ?_
    refine awp_loopH [5, 8, 9, 24, 25, 26, 27, 28, 29, 30, 31, 32, 33, 34, 35, 36, 37, 38, 39, 40, 41, 42, 43, 44, 45, 46, 47, 48, 49, 50, 51, 52, 53, 54, 55] [7, 20] (α := Nat) (fun k => [(24, T.i (k : Int))]) (fun k => [(7, .tbox [.d (.v (.int .i64 x.ck)), .rs 20]), (20, .row 3 1 ((wthL x.tk (dead.take k)).map iC))]) (fun k => k ≤ dead.length ∧ dedE x.tk.length (-1) dead = dedE x.tk.length (prvI dead k) (dead.drop k)) (fun k => dead.length - k) 0 ⟨Nat.zero_le _, rfl⟩ ?_ ?_
    · exact le_head (ms := [7, 20]) (by repeat (exact Out.refl _)) ⟨(by rfl), trivial⟩ ⟨(by rfl), (by (show Site.row 3 1 _ = Site.row 3 1 _; rw [List.take_zero, wthL_nil])), trivial⟩ rfl rfl rfl rfl
    ·
      intro k ⟨hk, hf⟩
      refine awp_seq ?_
      refine awp_region 1 mixed (by kernel_rfl) ?_
      refine rg_q (q_lss rfl rfl) ?_
      refine rg_nil ?_
      refine aops_nil ?_
      change Awp _ _ _ _ _
      refine awp_seq ?_
      refine awp_cond rfl (fun hc6 => ?_) (fun hc6 => ?_)
      ·
        (try simp only [decide_eq_true_eq, decide_eq_false_iff_not, Bool.and_eq_true, Bool.or_eq_true, Bool.and_eq_false_iff, Bool.or_eq_false_iff, Bool.not_eq_true', Bool.not_eq_false', Bool.not_true, Bool.not_false, bif_and, bif_or, Bool.not_not, ne_eq, Decidable.not_not, not_true_eq_false, not_false_eq_true, Int.not_le, Int.not_lt] at hc6)
        have hlt : k < dead.length := by omega
        obtain ⟨y, hx⟩ : ∃ y, dead[k]? = some y := ⟨_, List.getElem?_eq_getElem hlt⟩
        obtain ⟨z, hp⟩ : ∃ z, 0 < k → dead[k - 1]? = some z := ⟨dead.getD (k - 1) 0, fun h => by rw [List.getD_eq_getElem?_getD, List.getElem?_eq_getElem (by omega)]; rfl⟩
        have hd := dedE_at (m := x.tk.length) hx
        refine awp_skip ?_
        change Awp _ _ _ _ _
        refine awp_seq ?_
        refine awp_block ?_
        refine awp_seq ?_
        refine awp_region 5 mixed (by kernel_rfl) ?_
        refine rg_q (q_move (x := .d (.v _)) rfl) ?_
        refine rg_q (q_indexAddr sl31 rfl rfl (by omega) (map_at (by omega) hx)) ?_
        refine rg_q (q_load sz3 rfl rfl) ?_
        refine rg_q (q_assign (x := .d (.v _)) rfl) ?_
        refine rg_q (q_assign (x := .d (.v _)) rfl) ?_
        refine rg_nil ?_
        refine aops_nil ?_
        change Awp _ _ _ _ _
        refine awp_seq ?_
        refine awp_block ?_
        refine awp_seq ?_
        refine awp_region 8 mixed (by kernel_rfl) ?_
        refine rg_q (q_move (x := .d (.v _)) rfl) ?_
        refine rg_q (q_fieldAddr fld33_1 rfl) ?_
        refine rg_q (q_load sz31 rfl rfl) ?_
        refine rg_q (q_len isl31 rfl (by exact len_map _ _)) ?_
        refine rg_q (q_sub rfl rfl (In64.mk (by omega) (by omega))) ?_
        refine rg_q (q_call en91 (.cons rfl (.cons rfl (.cons rfl .nil))) rfl (lwithin_p _ _ _)) ?_
        refine rg_q (q_not rfl) ?_
        refine rg_q (q_assign (x := .d (.v _)) rfl) ?_
        refine rg_nil ?_
        refine aops_nil ?_
        change Awp _ _ _ _ _
        refine awp_len (t := 32) rfl (fun hl32 => ?_)
        (try simp only [List.length_map] at hl32)
        refine awp_cond rfl (fun hc8 => ?_) (fun hc8 => ?_)
        ·
          (try simp only [decide_eq_true_eq, decide_eq_false_iff_not, Bool.and_eq_true, Bool.or_eq_true, Bool.and_eq_false_iff, Bool.or_eq_false_iff, Bool.not_eq_true', Bool.not_eq_false', Bool.not_true, Bool.not_false, bif_and, bif_or, Bool.not_not, ne_eq, Decidable.not_not, not_true_eq_false, not_false_eq_true, Int.not_le, Int.not_lt] at hc8)
          have hq : inR 0 y (x.tk.length - 1) = false := by simpa using hc8
          have he : dedE x.tk.length (-1) dead = 6 := by rw [hf, hd, if_pos hq]
          have hz : wthR x dead = (⟨0, []⟩, 6) := by unfold wthR; rw [if_neg (by rw [hz0]; simp), he, if_pos (by simp)]
          refine awp_seq ?_
          refine awp_region 1 mixed (by kernel_rfl) ?_
          refine rg_q (q_build (cs := [_, _]) pl33 zr33 rfl .nil trivial rfl) ?_
          refine rg_nil ?_
          refine aops_store sz33 rfl rfl (by exact .inr ⟨_, rfl⟩) rfl rfl (by decide) rfl ?_
          refine aops_q rfl (q_assign (x := .d (.v _)) rfl) ?_
          refine aops_nil ?_
          change Awp _ _ _ _ _
          refine Awp.le (le_upB 4 (dlyC ⟨0, []⟩) rfl (.cons (.same _) (.cons (.nil 1) .nil))) ?_
          refine awp_ret ?_
          refine ⟨_, (.cons (.cellA rfl rfl sz33 rfl) (.cons (.tmp (by exact .d _)) .nil)), ?_⟩
          rw [hz]; rfl
        ·
          (try simp only [decide_eq_true_eq, decide_eq_false_iff_not, Bool.and_eq_true, Bool.or_eq_true, Bool.and_eq_false_iff, Bool.or_eq_false_iff, Bool.not_eq_true', Bool.not_eq_false', Bool.not_true, Bool.not_false, bif_and, bif_or, Bool.not_not, ne_eq, Decidable.not_not, not_true_eq_false, not_false_eq_true, Int.not_le, Int.not_lt] at hc8)
          have hq : inR 0 y (x.tk.length - 1) = true := by simpa using hc8
          have hq2 := hq
          simp [inR] at hq2
          obtain ⟨y1, y2⟩ := hq2
          refine awp_seq ?_
          refine awp_region 12 mixed (by kernel_rfl) ?_
          refine rg_q (q_move (x := .d (.v _)) rfl) ?_
          refine rg_q (q_gtr rfl rfl) ?_
          refine rg_q (q_move (x := .d (.v _)) rfl) ?_
          refine rg_g rfl rfl (fun hG => (q_move (x := .d (.v _)) rfl)) ?_
          refine rg_g rfl rfl (fun hG => (q_move (x := .d (.sl _ _)) rfl)) ?_
          refine rg_g rfl rfl (fun hG => (q_move (x := .d (.v _)) rfl)) ?_
          refine rg_g rfl rfl (fun hG => (q_sub rfl rfl (In64.mk (by (have hg0 := T.bool_inj (a := _) hG.1; (try simp only [decide_eq_true_eq, decide_eq_false_iff_not, Bool.and_eq_true, Bool.or_eq_true, Bool.and_eq_false_iff, Bool.or_eq_false_iff, Bool.not_eq_true', Bool.not_eq_false', Bool.not_true, Bool.not_false, bif_and, bif_or, Bool.not_not, ne_eq, Decidable.not_not, not_true_eq_false, not_false_eq_true, Int.not_le, Int.not_lt] at hg0); omega)) (by (have hg0 := T.bool_inj (a := _) hG.1; (try simp only [decide_eq_true_eq, decide_eq_false_iff_not, Bool.and_eq_true, Bool.or_eq_true, Bool.and_eq_false_iff, Bool.or_eq_false_iff, Bool.not_eq_true', Bool.not_eq_false', Bool.not_true, Bool.not_false, bif_and, bif_or, Bool.not_not, ne_eq, Decidable.not_not, not_true_eq_false, not_false_eq_true, Int.not_le, Int.not_lt] at hg0); omega))))) ?_
          refine rg_g rfl rfl (fun hG => (q_indexAddr sl31 rfl rfl (by (have hg0 := T.bool_inj (a := _) hG.1; (try simp only [decide_eq_true_eq, decide_eq_false_iff_not, Bool.and_eq_true, Bool.or_eq_true, Bool.and_eq_false_iff, Bool.or_eq_false_iff, Bool.not_eq_true', Bool.not_eq_false', Bool.not_true, Bool.not_false, bif_and, bif_or, Bool.not_not, ne_eq, Decidable.not_not, not_true_eq_false, not_false_eq_true, Int.not_le, Int.not_lt] at hg0); omega)) (map_at (k := k - 1) (by (have hg0 := T.bool_inj (a := _) hG.1; (try simp only [decide_eq_true_eq, decide_eq_false_iff_not, Bool.and_eq_true, Bool.or_eq_true, Bool.and_eq_false_iff, Bool.or_eq_false_iff, Bool.not_eq_true', Bool.not_eq_false', Bool.not_true, Bool.not_false, bif_and, bif_or, Bool.not_not, ne_eq, Decidable.not_not, not_true_eq_false, not_false_eq_true, Int.not_le, Int.not_lt] at hg0); omega)) (hp (by (have hg0 := T.bool_inj (a := _) hG.1; (try simp only [decide_eq_true_eq, decide_eq_false_iff_not, Bool.and_eq_true, Bool.or_eq_true, Bool.and_eq_false_iff, Bool.or_eq_false_iff, Bool.not_eq_true', Bool.not_eq_false', Bool.not_true, Bool.not_false, bif_and, bif_or, Bool.not_not, ne_eq, Decidable.not_not, not_true_eq_false, not_false_eq_true, Int.not_le, Int.not_lt] at hg0); omega)))))) ?_
          refine rg_g rfl rfl (fun hG => (q_load sz3 rfl rfl)) ?_
          refine rg_g rfl rfl (fun hG => (q_leq rfl rfl)) ?_
          refine rg_pick rfl rfl rfl rfl rfl rfl ?_
          refine rg_q (q_assign (x := .d (.v _)) rfl) ?_
          refine rg_nil ?_
          refine aops_nil ?_
          change Awp _ _ _ _ _
          refine awp_cond rfl (fun hc10 => ?_) (fun hc10 => ?_)
          ·
            (try simp only [decide_eq_true_eq, decide_eq_false_iff_not, Bool.and_eq_true, Bool.or_eq_true, Bool.and_eq_false_iff, Bool.or_eq_false_iff, Bool.not_eq_true', Bool.not_eq_false', Bool.not_true, Bool.not_false, bif_and, bif_or, Bool.not_not, ne_eq, Decidable.not_not, not_true_eq_false, not_false_eq_true, Int.not_le, Int.not_lt] at hc10)
            have he : dedE x.tk.length (-1) dead = 9 := by rw [hf, hd, if_neg (by rw [hq]; simp), if_pos (by unfold prvI; rw [if_neg (by omega), List.getD_eq_getElem?_getD, hp (by omega)]; exact hc10.2)]
            have hz : wthR x dead = (⟨0, []⟩, 9) := by unfold wthR; rw [if_neg (by rw [hz0]; simp), he, if_pos (by simp)]
            refine awp_seq ?_
            refine awp_region 1 mixed (by kernel_rfl) ?_
            refine rg_q (q_build (cs := [_, _]) pl33 zr33 rfl .nil trivial rfl) ?_
            refine rg_nil ?_
            refine aops_store sz33 rfl rfl (by exact .inr ⟨_, rfl⟩) rfl rfl (by decide) rfl ?_
            refine aops_q rfl (q_assign (x := .d (.v _)) rfl) ?_
            refine aops_nil ?_
            change Awp _ _ _ _ _
            refine Awp.le (le_upB 4 (dlyC ⟨0, []⟩) rfl (.cons (.same _) (.cons (.nil 1) .nil))) ?_
            refine awp_ret ?_
            refine ⟨_, (.cons (.cellA rfl rfl sz33 rfl) (.cons (.tmp (by exact .d _)) .nil)), ?_⟩
            rw [hz]; rfl
          ·
            (try simp only [decide_eq_true_eq, decide_eq_false_iff_not, Bool.and_eq_true, Bool.or_eq_true, Bool.and_eq_false_iff, Bool.or_eq_false_iff, Bool.not_eq_true', Bool.not_eq_false', Bool.not_true, Bool.not_false, bif_and, bif_or, Bool.not_not, ne_eq, Decidable.not_not, not_true_eq_false, not_false_eq_true, Int.not_le, Int.not_lt] at hc10)
            have hnl : ¬ y ≤ prvI dead k := by
              unfold prvI
              by_cases e : k = 0
              · rw [if_pos e]; omega
              · rw [if_neg e, List.getD_eq_getElem?_getD, hp (by omega)]
                intro h
                have h : y ≤ z := h
                (simp_all; omega)
            have hsn := wthL_snoc (t := x.tk) hx y1
            have hyl : y.toNat < (wthL x.tk (dead.take k)).length := by rw [wth_len]; omega
            obtain ⟨u, hu⟩ : ∃ u, (wthL x.tk (dead.take k))[y.toNat]? = some u := ⟨_, List.getElem?_eq_getElem hyl⟩
            have hur : ((wthL x.tk (dead.take k)).map iC)[y.toNat]? = some (iC u) := by rw [List.getElem?_map, hu]; rfl
            have hkl : y < ((wthL x.tk (dead.take k)).map iC).length := by rw [List.length_map, wth_len]; omega
            refine awp_skip ?_
            change Awp _ _ _ _ _
            refine awp_region 4 mixed (by kernel_rfl) ?_
            refine rg_q (q_fieldAddr_ref fld33_1 rfl) ?_
            refine rg_q (q_load_tb (x := .rs _) sz31 rfl rfl rfl) ?_
            refine rg_q (q_move (x := .d (.v _)) rfl) ?_
            refine rg_q (q_indexAddr_rs sl31 rfl rfl rfl (by omega) (by omega)) ?_
            refine rg_nil ?_
            refine aops_store_row sz3 rfl rfl (by exact .inl rfl) rfl rfl (i := y.toNat) (j := 0) (es' := (wthL x.tk (dead.take (k + 1))).map iC) (by omega) hur (by decide) (by rw [← hsn]; exact setI_map _ _ _ rfl) ?_
            refine aops_nil ?_
            change Awp _ _ _ _ _
            refine awp_region 2 mixed (by kernel_rfl) ?_
            refine rg_q (q_add rfl rfl (In64.mk (by omega) (by omega))) ?_
            refine rg_q (q_move (x := .d (.v _)) rfl) ?_
            refine rg_nil ?_
            refine aops_nil ?_
            refine ⟨k + 1, ⟨by omega, by rw [hf, hd, if_neg (by rw [hq]; simp), if_neg hnl]⟩, by omega, ?_⟩
            exact le_head (ms := [7, 20]) (by repeat (first | exact Out.head rfl rfl | (refine Out.put ?_ rfl) | (refine Out.site ?_ rfl))) ⟨(by rfl), trivial⟩ ⟨(by rfl), (by rfl), trivial⟩ rfl rfl rfl rfl
      ·
        (try simp only [decide_eq_true_eq, decide_eq_false_iff_not, Bool.and_eq_true, Bool.or_eq_true, Bool.and_eq_false_iff, Bool.or_eq_false_iff, Bool.not_eq_true', Bool.not_eq_false', Bool.not_true, Bool.not_false, bif_and, bif_or, Bool.not_not, ne_eq, Decidable.not_not, not_true_eq_false, not_false_eq_true, Int.not_le, Int.not_lt] at hc6)
        have hkl : k = dead.length := by omega
        subst hkl
        have hzz : dedE x.tk.length (-1) dead = 0 := by rw [hf, List.drop_length]; rfl
        have hz : wthR x dead = (wth x dead, 0) := by unfold wthR; rw [if_neg (by rw [hz0]; simp), if_neg (by rw [hzz]; simp)]
        have hw0 : (wthL x.tk (dead.take dead.length)).map iC = (wth x dead).tk.map iC := by rw [List.take_length]; rfl
        refine awp_exit ?_
        change Awp _ _ _ _ _
        refine awp_seq ?_
        refine Awp.le (le_freezeTB 7 20 1 (es := (wth x dead).tk.map iC) rfl rfl (by show Site.row _ _ _ = _; rw [hw0]) rfl hmine) ?_
        refine Awp.le (le_boxT 7 (dlyC (wth x dead)) rfl rfl (by intro j d h; match j, h with | 0, h => cases h; rfl | 1, h => cases h; rfl)) ?_
        refine awp_region 1 mixed (by kernel_rfl) ?_
        refine rg_q (q_load_refA (ds := [_, _]) sz33 rfl rfl rfl rfl) ?_
        refine rg_nil ?_
        refine aops_store sz33 rfl rfl (by exact .inr ⟨_, rfl⟩) rfl rfl (by decide) rfl ?_
        refine aops_q rfl (q_assign (x := .d (.v _)) rfl) ?_
        refine aops_nil ?_
        change Awp _ _ _ _ _
        refine awp_ret ?_
        refine ⟨_, (.cons (.cellA rfl rfl sz33 rfl) (.cons (.tmp (by exact .d _)) .nil)), ?_⟩
        rw [hz]; rfl
end Go.Proofs.YtgeieocphgnipaaGreatDoor.Am.M
