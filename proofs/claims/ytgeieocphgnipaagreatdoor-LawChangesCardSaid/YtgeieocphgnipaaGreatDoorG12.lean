/- Contracts over the abstract machine: changes: the reference, LawChanges. Conditions: none. -/
import Derived.Test.YtgeieocphgnipaaGreatDoorG11
set_option linter.unusedVariables false
set_option linter.unusedSimpArgs false
-- mini
namespace Go.Proofs.YtgeieocphgnipaaGreatDoor.Am.M
open Go
set_option maxRecDepth 100000 in
theorem rround_p (n b : Int) (h1 : -1000000000000000000 ≤ n) (h2 : n ≤ 1000000000000000000) (h3 : 1 ≤ b) (h4 : b ≤ 1000000000000000000) : PC Tryz.prog 85 [.v (.int .i64 (n)), .v (.int .i64 (b))] (.v (.int .i64 (rndL n b))) := by
  refine pc_of_awp Tryz.func85 rfl Tryz.ntmps85 (rs := [.tmp 4]) Tryz.results85 (by simp) fun w0 => ?_
  refine awp_seq ?_
  refine awp_region 1 mixed (by kernel_rfl) ?_
  refine rg_q (q_assign (x := .d (.v _)) rfl) ?_
  refine rg_nil ?_
  refine aops_nil ?_
  change Awp _ _ _ _ _
  refine awp_seq ?_
  refine awp_region 8 mixed (by kernel_rfl) ?_
  refine rg_q (q_move (x := .d (.v _)) rfl) ?_
  refine rg_q (q_mul rfl rfl (In64.mk (by omega) (by omega))) ?_
  refine rg_q (q_move (x := .d (.v _)) rfl) ?_
  refine rg_q (q_add rfl rfl (In64.mk (by omega) (by omega))) ?_
  refine rg_q (q_move (x := .d (.v _)) rfl) ?_
  refine rg_q (q_mul rfl rfl (In64.mk (by omega) (by omega))) ?_
  refine rg_q (q_call en115 (.cons rfl (.cons rfl .nil)) rfl (Floor_p _ _ ⟨by omega, by omega⟩ (by omega))) ?_
  refine rg_q (q_assign (x := .d (.v _)) rfl) ?_
  refine rg_nil ?_
  refine aops_nil ?_
  change Awp _ _ _ _ _
  refine awp_ret ?_
  refine ⟨_, (.cons (.tmp (by exact .d _)) .nil), ?_⟩
  rfl

def rcsF (x : Dly) (c : Int) : Int → Int := chgF x fun _ t => rndL (t * x.ck) c
theorem rcsF_at {x : Dly} {c : Int} {i : Nat} {n : Int} (hx : x.tk[i]? = some n) : rcsF x c (i : Int) = if 0 ≤ n then rndL (n * x.ck) c else -1 := by unfold rcsF chgF; rw [tkA_at hx]
set_option maxRecDepth 100000 in
theorem rrecast_p (x : Dly) (c : Int) (hx0 : (ckLaw x).2 = 0) (hc0 : clkE c = 0) : PC Tryz.prog 72 [.agg (dlyC x), .v (.int .i64 (c))] (.tup [.agg (dlyC (rcsR x c).1), .v (.int .i64 ((rcsR x c).2))]) := by
  have hok := (ckLaw_ok hx0).1
  have hn2 := hok.n2
  have k1 := hok.c1
  have k2 := hok.c2
  obtain ⟨c1, c2⟩ := clkE_ok hc0
  have hu : rcsR x c = bltR (rcsF x c) c x.tk.length := by
    have e : rcsE x c = 0 := by unfold rcsE; rw [hx0, hc0]; rfl
    unfold rcsR; rw [if_neg (fun q => q e)]; rfl
  refine pc_of_awpN Tryz.func72 rfl Tryz.ntmps72 (rs := [.cell 4 33, .tmp 5]) Tryz.results72 (by simp) fun w0 hmine hrnd hpn => ?_
  refine awp_seq ?_
  refine awp_region 1 mixed (by kernel_rfl) ?_
  refine rg_q (q_box rfl (by exact .inr ⟨_, rfl⟩)) ?_
  refine rg_nil ?_
  refine aops_alloc zr33 rfl rfl rfl ?_
  refine aops_q rfl (q_assign (x := .d (.v _)) rfl) ?_
  refine aops_nil ?_
  change Awp _ _ _ _ _
  refine awp_seq ?_
  refine awp_region 1 mixed (by kernel_rfl) ?_
  refine rg_q (q_assign_nil) ?_
  refine rg_nil ?_
  refine aops_nil ?_
  change Awp _ _ _ _ _
  refine Awp.le (le_own (k := 6) (e := 3) (sz := 1) rfl rfl) ?_
  refine awp_seq ?_
  refine awp_seq ?_
  refine awp_region 1 mixed (by kernel_rfl) ?_
  refine rg_q (q_assign (x := .d (.v _)) rfl) ?_
  refine rg_nil ?_
  refine aops_nil ?_
  change Awp _ _ _ _ _
  refine awp_block ?_
  refine awp_loopH [6, 7, 8, 9, 10, 11, 12, 13, 14, 15, 16, 17, 18, 19, 20, 21, 22, 23, 24, 25, 26, 27, 28, 29, 30, 31, 32, 33, 34, 35, 36] [6] (α := Nat) (fun k => [(7, T.i (k : Int)), (6, .rs 6)]) (fun k => [(6, .row 3 1 ((bltL (rcsF x c) k).map iC))]) (fun k => k ≤ x.tk.length) (fun k => x.tk.length - k) 0 (Nat.zero_le _) ?_ ?_
  · exact le_head (ms := [6]) (by repeat (exact Out.refl _)) ⟨(by rfl), (by rfl), trivial⟩ ⟨(by rfl), trivial⟩ rfl rfl rfl rfl
  ·
    intro k hk
    refine awp_seq ?_
    refine awp_seq ?_
    refine awp_region 5 mixed (by kernel_rfl) ?_
    refine rg_q (q_move (x := .d (.v _)) rfl) ?_
    refine rg_q (q_fieldAddr fld33_1 rfl) ?_
    refine rg_q (q_load sz31 rfl rfl) ?_
    refine rg_q (q_len isl31 rfl (by exact len_map _ _)) ?_
    refine rg_q (q_lss rfl rfl) ?_
    refine rg_nil ?_
    refine aops_nil ?_
    change Awp _ _ _ _ _
    refine awp_len (t := 10) rfl (fun hl10 => ?_)
    (try simp only [List.length_map] at hl10)
    refine awp_cond rfl (fun hc3 => ?_) (fun hc3 => ?_)
    ·
      (try simp only [decide_eq_true_eq, decide_eq_false_iff_not, Bool.and_eq_true, Bool.or_eq_true, Bool.and_eq_false_iff, Bool.or_eq_false_iff, Bool.not_eq_true', Bool.not_eq_false', Bool.not_true, Bool.not_false, bif_and, bif_or, Bool.not_not, ne_eq, Decidable.not_not, not_true_eq_false, not_false_eq_true, Int.not_le, Int.not_lt] at hc3)
      have hlt : k < x.tk.length := by omega
      obtain ⟨n, hx⟩ : ∃ n, x.tk[k]? = some n := ⟨_, List.getElem?_eq_getElem hlt⟩
      have hnn := hok.tk n (List.mem_of_getElem? hx)
      have hat := rcsF_at (c := c) hx
      have hln : (bltL (rcsF x c) k).length ≤ 16 := by rw [bltL_len]; omega
      have hsk0 := bltL_succ (rcsF x c) k
      refine awp_skip ?_
      change Awp _ _ _ _ _
      refine awp_seq ?_
      refine awp_block ?_
      refine awp_seq ?_
      refine awp_region 6 mixed (by kernel_rfl) ?_
      refine rg_q (q_fieldAddr fld33_1 rfl) ?_
      refine rg_q (q_load sz31 rfl rfl) ?_
      refine rg_q (q_move (x := .d (.v _)) rfl) ?_
      refine rg_q (q_indexAddr sl31 rfl rfl (by omega) (map_at (by omega) hx)) ?_
      refine rg_q (q_load sz3 rfl rfl) ?_
      refine rg_q (q_lss rfl rfl) ?_
      refine rg_nil ?_
      refine aops_nil ?_
      change Awp _ _ _ _ _
      refine awp_cond rfl (fun hc5 => ?_) (fun hc5 => ?_)
      ·
        (try simp only [decide_eq_true_eq, decide_eq_false_iff_not, Bool.and_eq_true, Bool.or_eq_true, Bool.and_eq_false_iff, Bool.or_eq_false_iff, Bool.not_eq_true', Bool.not_eq_false', Bool.not_true, Bool.not_false, bif_and, bif_or, Bool.not_not, ne_eq, Decidable.not_not, not_true_eq_false, not_false_eq_true, Int.not_le, Int.not_lt] at hc5)
        have hv : rcsF x c (k : Int) = -1 := by rw [hat, if_neg (by omega)]
        rw [hv] at hsk0
        refine awp_region 2 mixed (by kernel_rfl) ?_
        refine rg_q (q_move (x := .rs _) rfl) ?_
        refine rg_q (q_buildSlice sl31 zr3 rfl rfl (by decide) (.cons rfl (by exact .inl rfl) .nil) ⟨rfl, rfl, trivial⟩ rfl (by decide) rfl) ?_
        refine rg_nil ?_
        refine aops_append sl31 zr3 by3 rfl (by decide) rfl rfl rfl rfl (by (try simp only [List.length_map, List.length_append, List.length_cons, List.length_nil]); omega) (by (try simp only [List.length_map, List.length_append, List.length_cons, List.length_nil]); omega) rfl rfl ?_
        refine aops_q rfl (q_assign (x := .rs _) rfl) ?_
        refine aops_nil ?_
        change Awp _ _ _ _ _
        refine awp_region 3 mixed (by kernel_rfl) ?_
        refine rg_q (q_move (x := .d (.v _)) rfl) ?_
        refine rg_q (q_add rfl rfl (In64.mk (by omega) (by omega))) ?_
        refine rg_q (q_assign (x := .d (.v _)) rfl) ?_
        refine rg_nil ?_
        refine aops_nil ?_
        refine ⟨k + 1, by omega, by omega, ?_⟩
        exact le_head (ms := [6]) (by repeat (first | exact Out.head rfl rfl | (refine Out.put ?_ rfl) | (refine Out.site ?_ rfl) | (refine Out.killS ?_ rfl))) ⟨(by rfl), (by rfl), trivial⟩ ⟨(by (show Site.row 3 1 (_ ++ [_]) = Site.row 3 1 _; rw [hsk0, List.map_append]; rfl)), trivial⟩ rfl rfl rfl rfl
      ·
        (try simp only [decide_eq_true_eq, decide_eq_false_iff_not, Bool.and_eq_true, Bool.or_eq_true, Bool.and_eq_false_iff, Bool.or_eq_false_iff, Bool.not_eq_true', Bool.not_eq_false', Bool.not_true, Bool.not_false, bif_and, bif_or, Bool.not_not, ne_eq, Decidable.not_not, not_true_eq_false, not_false_eq_true, Int.not_le, Int.not_lt] at hc5)
        have hv : rcsF x c (k : Int) = rndL (n * x.ck) c := by rw [hat, if_pos (by omega)]
        rw [hv] at hsk0
        have m := mulb (a := n) (b := x.ck) (A := 1000000) (B := 1000000) (by omega) (by omega) (by omega) (by omega)
        refine awp_region 12 mixed (by kernel_rfl) ?_
        refine rg_q (q_move (x := .rs _) rfl) ?_
        refine rg_q (q_fieldAddr fld33_1 rfl) ?_
        refine rg_q (q_load sz31 rfl rfl) ?_
        refine rg_q (q_move (x := .d (.v _)) rfl) ?_
        refine rg_q (q_indexAddr sl31 rfl rfl (by omega) (map_at (by omega) hx)) ?_
        refine rg_q (q_load sz3 rfl rfl) ?_
        refine rg_q (q_fieldAddr fld33_0 rfl) ?_
        refine rg_q (q_load sz3 rfl rfl) ?_
        refine rg_q (q_mul rfl rfl (In64.mk (by omega) (by omega))) ?_
        refine rg_q (q_move (x := .d (.v _)) rfl) ?_
        refine rg_q (q_call en85 (.cons rfl (.cons rfl .nil)) rfl (rround_p _ _ (by omega) (by omega) (by omega) (by omega))) ?_
        refine rg_q (q_buildSlice sl31 zr3 rfl rfl (by decide) (.cons rfl (by exact .inl rfl) .nil) ⟨rfl, rfl, trivial⟩ rfl (by decide) rfl) ?_
        refine rg_nil ?_
        refine aops_append sl31 zr3 by3 rfl (by decide) rfl rfl rfl rfl (by (try simp only [List.length_map, List.length_append, List.length_cons, List.length_nil]); omega) (by (try simp only [List.length_map, List.length_append, List.length_cons, List.length_nil]); omega) rfl rfl ?_
        refine aops_q rfl (q_assign (x := .rs _) rfl) ?_
        refine aops_nil ?_
        change Awp _ _ _ _ _
        refine awp_region 3 mixed (by kernel_rfl) ?_
        refine rg_q (q_move (x := .d (.v _)) rfl) ?_
        refine rg_q (q_add rfl rfl (In64.mk (by omega) (by omega))) ?_
        refine rg_q (q_assign (x := .d (.v _)) rfl) ?_
        refine rg_nil ?_
        refine aops_nil ?_
        refine ⟨k + 1, by omega, by omega, ?_⟩
        exact le_head (ms := [6]) (by repeat (first | exact Out.head rfl rfl | (refine Out.put ?_ rfl) | (refine Out.site ?_ rfl) | (refine Out.killS ?_ rfl))) ⟨(by rfl), (by rfl), trivial⟩ ⟨(by (show Site.row 3 1 (_ ++ [_]) = Site.row 3 1 _; rw [hsk0, List.map_append]; rfl)), trivial⟩ rfl rfl rfl rfl
    ·
      (try simp only [decide_eq_true_eq, decide_eq_false_iff_not, Bool.and_eq_true, Bool.or_eq_true, Bool.and_eq_false_iff, Bool.or_eq_false_iff, Bool.not_eq_true', Bool.not_eq_false', Bool.not_true, Bool.not_false, bif_and, bif_or, Bool.not_not, ne_eq, Decidable.not_not, not_true_eq_false, not_false_eq_true, Int.not_le, Int.not_lt] at hc3)
      have hkn : k = x.tk.length := by omega
      subst hkn
      refine awp_exit ?_
      change Awp _ _ _ _ _
      refine awp_seq ?_
      refine Awp.le (le_freezeR (es := (bltL (rcsF x c) x.tk.length).map iC) 6 6 (by show Site.row _ _ _ = _; rfl) rfl rfl rfl hmine) ?_
      refine awp_region 5 mixed (by kernel_rfl) ?_
      refine rg_q (q_move (x := .d (.v _)) rfl) ?_
      refine rg_q (q_move (x := .d (.sl _ _)) rfl) ?_
      refine rg_q (q_call en86 (.cons rfl (.cons rfl .nil)) rfl ((by have h := lawOf_p c (bltL (rcsF x c) x.tk.length); rw [lwo_blt] at h; exact h))) ?_
      refine rg_q (q_extract rfl rfl) ?_
      refine rg_q (q_extract rfl rfl) ?_
      refine rg_nil ?_
      refine aops_store sz33 rfl rfl (by exact .inr ⟨_, rfl⟩) rfl rfl (by decide) rfl ?_
      refine aops_q rfl (q_assign (x := .d (.v _)) rfl) ?_
      refine aops_nil ?_
      change Awp _ _ _ _ _
      refine awp_ret ?_
      refine ⟨_, (.cons (.cellA rfl rfl sz33 rfl) (.cons (.tmp (by exact .d _)) .nil)), ?_⟩
      rw [hu]; rfl
set_option maxRecDepth 100000 in
theorem copyIntsS_p (L : List Int) (h1 : L.length ≤ 1000) : PCS Tryz.prog 61 [.d (.sl 1 (L.map iC))] [] (.rs 0) [.row 3 1 (L.map iC)] := by
  refine pcs_of_awp Tryz.func61 rfl Tryz.ntmps61 (rs := [.tmp 2]) Tryz.results61 (by simp) fun w0 => ?_
  refine awp_seq ?_
  refine awp_region 1 mixed (by kernel_rfl) ?_
  refine rg_q (q_assign (x := .d (.sl _ _)) rfl) ?_
  refine rg_nil ?_
  refine aops_nil ?_
  change Awp _ _ _ _ _
  refine awp_seq ?_
  refine awp_region 0 mixed (by kernel_rfl) ?_
  refine rg_nil ?_
  refine aops_empty sl31 zr3 rfl rfl ?_
  refine aops_q rfl (q_move (x := .d (.sl _ _)) rfl) ?_
  refine aops_append sl31 zr3 by3 rfl (by decide) rfl rfl rfl rfl (by (try simp only [List.length_map, List.length_append, List.length_cons, List.length_nil]); omega) (by (try simp only [List.length_map, List.length_append, List.length_cons, List.length_nil]); omega) rfl rfl ?_
  refine aops_q rfl (q_assign (x := .rs _) rfl) ?_
  refine aops_nil ?_
  change Awp _ _ _ _ _
  refine awp_ret ?_
  exact end_mk (.inl rfl) [3] (.tmp rfl) (by repeat (first | exact trivial | refine ⟨rfl, ?_⟩)) rfl
set_option maxRecDepth 100000 in
theorem rwithout_p (x : Dly) (dead : List Int) (hx0 : (ckLaw x).2 = 0) : PC Tryz.prog 70 [.agg (dlyC x), .sl 1 (dead.map iC)] (.tup [.agg (dlyC (wthR x dead).1), .v (.int .i64 ((wthR x dead).2))]) := by
  have hok := (ckLaw_ok hx0).1
  have hn1 := hok.n1
  have hn2 := hok.n2
  have hu : wthR x dead = if dedE x.tk.length (-1) dead ≠ 0 then (⟨0, []⟩, dedE x.tk.length (-1) dead) else (wth x dead, 0) := by unfold wthR; rw [if_neg (fun q => q hx0)]
  refine pc_of_awpN Tryz.func70 rfl Tryz.ntmps70 (rs := [.cell 4 33, .tmp 5]) Tryz.results70 (by simp) fun w0 hmine hrnd hpn => ?_
  refine awp_seq ?_
  refine awp_region 1 mixed (by kernel_rfl) ?_
  refine rg_q (q_box rfl (by exact .inr ⟨_, rfl⟩)) ?_
  refine rg_nil ?_
  refine aops_alloc zr33 rfl rfl rfl ?_
  refine aops_q rfl (q_assign (x := .d (.v _)) rfl) ?_
  refine aops_nil ?_
  change Awp _ _ _ _ _
  refine awp_seq ?_
  refine awp_region 2 mixed (by kernel_rfl) ?_
  refine rg_q (q_fieldAddr fld33_1 rfl) ?_
  refine rg_q (q_load sz31 rfl rfl) ?_
  refine rg_nil ?_
  refine aops_callN [10] en61 (copyIntsS_p x.tk (by have := hok.n2; omega)) rfl (.cons (by exact .d _) .nil) rfl (newS.none rfl rfl) rfl (fun s hs => by rcases List.mem_singleton.1 hs with rfl; exact flat_row iC 3 1 x.tk iC_flat) trivial ?_
  refine aops_q rfl (q_assign (x := .rs _) rfl) ?_
  refine aops_nil ?_
  change Awp _ _ _ _ _
  refine awp_seq ?_
  refine awp_seq ?_
  refine awp_region 1 mixed (by kernel_rfl) ?_
  refine rg_q (q_assign (x := .d (.v _)) rfl) ?_
  refine rg_nil ?_
  refine aops_nil ?_
  change Awp _ _ _ _ _
  refine awp_block ?_
  refine awp_loopH [5, 7, 11, 12, 13, 14, 15, 16, 17, 18, 19, 20, 21, 22, 23, 24, 25, 26, 27, 28, 29, 30, 31, 32, 33, 34, 35, 36, 37, 38, 39, 40, 41, 42, 43, 44, 45, 46, 47] [10] (α := Nat) (fun k => [(7, T.i (k : Int))]) (fun k => [(10, .row 3 1 ((wthL x.tk (dead.take k)).map iC))]) (fun k => k ≤ dead.length ∧ dedE x.tk.length (-1) dead = dedE x.tk.length (prvI dead k) (dead.drop k)) (fun k => dead.length - k) 0 ⟨Nat.zero_le _, rfl⟩ ?_ ?_
  · exact le_head (ms := [10]) (by repeat (exact Out.refl _)) ⟨(by rfl), trivial⟩ ⟨(by (show Site.row 3 1 _ = Site.row 3 1 _; rw [List.take_zero, wthL_nil])), trivial⟩ rfl rfl rfl rfl
  ·
    intro k ⟨hk, hf⟩
    refine awp_seq ?_
    refine awp_seq ?_
    refine awp_region 4 mixed (by kernel_rfl) ?_
    refine rg_q (q_move (x := .d (.v _)) rfl) ?_
    refine rg_q (q_move (x := .d (.sl _ _)) rfl) ?_
    refine rg_q (q_len isl31 rfl (by exact len_map _ _)) ?_
    refine rg_q (q_lss rfl rfl) ?_
    refine rg_nil ?_
    refine aops_nil ?_
    change Awp _ _ _ _ _
    refine awp_len (t := 12) rfl (fun hl12 => ?_)
    (try simp only [List.length_map] at hl12)
    refine awp_cond rfl (fun hc3 => ?_) (fun hc3 => ?_)
    ·
      (try simp only [decide_eq_true_eq, decide_eq_false_iff_not, Bool.and_eq_true, Bool.or_eq_true, Bool.and_eq_false_iff, Bool.or_eq_false_iff, Bool.not_eq_true', Bool.not_eq_false', Bool.not_true, Bool.not_false, bif_and, bif_or, Bool.not_not, ne_eq, Decidable.not_not, not_true_eq_false, not_false_eq_true, Int.not_le, Int.not_lt] at hc3)
      have hlt : k < dead.length := by omega
      obtain ⟨y, hx⟩ : ∃ y, dead[k]? = some y := ⟨_, List.getElem?_eq_getElem hlt⟩
      obtain ⟨z, hp⟩ : ∃ z, 0 < k → dead[k - 1]? = some z := ⟨dead.getD (k - 1) 0, fun h => by rw [List.getD_eq_getElem?_getD, List.getElem?_eq_getElem (by omega)]; rfl⟩
      have hwl : (wthL x.tk (dead.take k)).length = x.tk.length := wth_len _ _
      have hd := dedE_at (m := x.tk.length) hx
      refine awp_skip ?_
      change Awp _ _ _ _ _
      refine awp_seq ?_
      refine awp_block ?_
      refine awp_seq ?_
      refine awp_seq ?_
      refine awp_region 9 mixed (by kernel_rfl) ?_
      refine rg_q (q_move (x := .d (.sl _ _)) rfl) ?_
      refine rg_q (q_move (x := .d (.v _)) rfl) ?_
      refine rg_q (q_indexAddr sl31 rfl rfl (by omega) (map_at (by omega) hx)) ?_
      refine rg_q (q_load sz3 rfl rfl) ?_
      refine rg_q (q_move (x := .rs _) rfl) ?_
      refine rg_q (q_len_rs isl31 rfl rfl) ?_
      refine rg_q (q_sub rfl rfl (In64.mk (by (try simp only [List.length_map]); omega) (by (try simp only [List.length_map]); omega))) ?_
      refine rg_q (q_call en34 (.cons rfl (.cons rfl (.cons rfl .nil))) rfl (Within_p _ _ _)) ?_
      refine rg_q (q_not rfl) ?_
      refine rg_nil ?_
      refine aops_nil ?_
      change Awp _ _ _ _ _
      skip
      (try simp only [List.length_map] at hl21)
      refine awp_cond rfl (fun hc5 => ?_) (fun hc5 => ?_)
      ·
        (try simp only [decide_eq_true_eq, decide_eq_false_iff_not, Bool.and_eq_true, Bool.or_eq_true, Bool.and_eq_false_iff, Bool.or_eq_false_iff, Bool.not_eq_true', Bool.not_eq_false', Bool.not_true, Bool.not_false, bif_and, bif_or, Bool.not_not, ne_eq, Decidable.not_not, not_true_eq_false, not_false_eq_true, Int.not_le, Int.not_lt] at hc5)
        have hq : inR 0 y (x.tk.length - 1) = false := by rw [← hwl]; simpa using hc5
        have he : dedE x.tk.length (-1) dead = 6 := by rw [hf, hd, if_pos hq]
        rw [he, if_pos (by simp)] at hu
        refine awp_seq ?_
        refine awp_region 1 mixed (by kernel_rfl) ?_
        refine rg_q (q_build (cs := [_, _]) pl33 zr33 rfl .nil trivial rfl) ?_
        refine rg_nil ?_
        refine aops_store sz33 rfl rfl (by exact .inr ⟨_, rfl⟩) rfl rfl (by decide) rfl ?_
        refine aops_q rfl (q_assign (x := .d (.v _)) rfl) ?_
        refine aops_nil ?_
        change Awp _ _ _ _ _
        refine Awp.le (le_upB 4 (dlyC ⟨0, []⟩) rfl (.cons (.same _) (.cons (.nil 1) .nil))) ?_
        refine awp_ret ?_
        refine ⟨_, (.cons (.cellA rfl rfl sz33 rfl) (.cons (.tmp (by exact .d _)) .nil)), ?_⟩
        rw [hu]; rfl
      ·
        (try simp only [decide_eq_true_eq, decide_eq_false_iff_not, Bool.and_eq_true, Bool.or_eq_true, Bool.and_eq_false_iff, Bool.or_eq_false_iff, Bool.not_eq_true', Bool.not_eq_false', Bool.not_true, Bool.not_false, bif_and, bif_or, Bool.not_not, ne_eq, Decidable.not_not, not_true_eq_false, not_false_eq_true, Int.not_le, Int.not_lt] at hc5)
        have hq : inR 0 y (x.tk.length - 1) = true := by rw [← hwl]; simpa using hc5
        have hq2 := hq
        simp [inR] at hq2
        obtain ⟨y1, y2⟩ := hq2
        refine awp_skip ?_
        change Awp _ _ _ _ _
        refine awp_seq ?_
        refine awp_seq ?_
        refine awp_region 14 mixed (by kernel_rfl) ?_
        refine rg_q (q_move (x := .d (.v _)) rfl) ?_
        refine rg_q (q_gtr rfl rfl) ?_
        refine rg_q (q_move (x := .d (.v _)) rfl) ?_
        refine rg_g rfl rfl (fun hG => (q_move (x := .d (.sl _ _)) rfl)) ?_
        refine rg_g rfl rfl (fun hG => (q_move (x := .d (.v _)) rfl)) ?_
        refine rg_g rfl rfl (fun hG => (q_indexAddr sl31 rfl rfl (by (have hg0 := T.bool_inj (a := _) hG.1; (try simp only [decide_eq_true_eq, decide_eq_false_iff_not, Bool.and_eq_true, Bool.or_eq_true, Bool.and_eq_false_iff, Bool.or_eq_false_iff, Bool.not_eq_true', Bool.not_eq_false', Bool.not_true, Bool.not_false, bif_and, bif_or, Bool.not_not, ne_eq, Decidable.not_not, not_true_eq_false, not_false_eq_true, Int.not_le, Int.not_lt] at hg0); omega)) (map_at (by (have hg0 := T.bool_inj (a := _) hG.1; (try simp only [decide_eq_true_eq, decide_eq_false_iff_not, Bool.and_eq_true, Bool.or_eq_true, Bool.and_eq_false_iff, Bool.or_eq_false_iff, Bool.not_eq_true', Bool.not_eq_false', Bool.not_true, Bool.not_false, bif_and, bif_or, Bool.not_not, ne_eq, Decidable.not_not, not_true_eq_false, not_false_eq_true, Int.not_le, Int.not_lt] at hg0); omega)) hx))) ?_
        refine rg_g rfl rfl (fun hG => (q_load sz3 rfl rfl)) ?_
        refine rg_g rfl rfl (fun hG => (q_move (x := .d (.sl _ _)) rfl)) ?_
        refine rg_g rfl rfl (fun hG => (q_move (x := .d (.v _)) rfl)) ?_
        refine rg_g rfl rfl (fun hG => (q_sub rfl rfl (In64.mk (by (have hg0 := T.bool_inj (a := _) hG.1; (try simp only [decide_eq_true_eq, decide_eq_false_iff_not, Bool.and_eq_true, Bool.or_eq_true, Bool.and_eq_false_iff, Bool.or_eq_false_iff, Bool.not_eq_true', Bool.not_eq_false', Bool.not_true, Bool.not_false, bif_and, bif_or, Bool.not_not, ne_eq, Decidable.not_not, not_true_eq_false, not_false_eq_true, Int.not_le, Int.not_lt] at hg0); omega)) (by (have hg0 := T.bool_inj (a := _) hG.1; (try simp only [decide_eq_true_eq, decide_eq_false_iff_not, Bool.and_eq_true, Bool.or_eq_true, Bool.and_eq_false_iff, Bool.or_eq_false_iff, Bool.not_eq_true', Bool.not_eq_false', Bool.not_true, Bool.not_false, bif_and, bif_or, Bool.not_not, ne_eq, Decidable.not_not, not_true_eq_false, not_false_eq_true, Int.not_le, Int.not_lt] at hg0); omega))))) ?_
        refine rg_g rfl rfl (fun hG => (q_indexAddr sl31 rfl rfl (by (have hg0 := T.bool_inj (a := _) hG.1; (try simp only [decide_eq_true_eq, decide_eq_false_iff_not, Bool.and_eq_true, Bool.or_eq_true, Bool.and_eq_false_iff, Bool.or_eq_false_iff, Bool.not_eq_true', Bool.not_eq_false', Bool.not_true, Bool.not_false, bif_and, bif_or, Bool.not_not, ne_eq, Decidable.not_not, not_true_eq_false, not_false_eq_true, Int.not_le, Int.not_lt] at hg0); omega)) (map_at (k := k - 1) (by (have hg0 := T.bool_inj (a := _) hG.1; (try simp only [decide_eq_true_eq, decide_eq_false_iff_not, Bool.and_eq_true, Bool.or_eq_true, Bool.and_eq_false_iff, Bool.or_eq_false_iff, Bool.not_eq_true', Bool.not_eq_false', Bool.not_true, Bool.not_false, bif_and, bif_or, Bool.not_not, ne_eq, Decidable.not_not, not_true_eq_false, not_false_eq_true, Int.not_le, Int.not_lt] at hg0); omega)) (hp (by (have hg0 := T.bool_inj (a := _) hG.1; (try simp only [decide_eq_true_eq, decide_eq_false_iff_not, Bool.and_eq_true, Bool.or_eq_true, Bool.and_eq_false_iff, Bool.or_eq_false_iff, Bool.not_eq_true', Bool.not_eq_false', Bool.not_true, Bool.not_false, bif_and, bif_or, Bool.not_not, ne_eq, Decidable.not_not, not_true_eq_false, not_false_eq_true, Int.not_le, Int.not_lt] at hg0); omega)))))) ?_
        refine rg_g rfl rfl (fun hG => (q_load sz3 rfl rfl)) ?_
        refine rg_g rfl rfl (fun hG => (q_leq rfl rfl)) ?_
        refine rg_pick rfl rfl rfl rfl rfl rfl ?_
        refine rg_nil ?_
        refine aops_nil ?_
        change Awp _ _ _ _ _
        refine awp_cond rfl (fun hc7 => ?_) (fun hc7 => ?_)
        ·
          (try simp only [decide_eq_true_eq, decide_eq_false_iff_not, Bool.and_eq_true, Bool.or_eq_true, Bool.and_eq_false_iff, Bool.or_eq_false_iff, Bool.not_eq_true', Bool.not_eq_false', Bool.not_true, Bool.not_false, bif_and, bif_or, Bool.not_not, ne_eq, Decidable.not_not, not_true_eq_false, not_false_eq_true, Int.not_le, Int.not_lt] at hc7)
          have he : dedE x.tk.length (-1) dead = 9 := by rw [hf, hd, if_neg (by rw [hq]; simp), if_pos (by unfold prvI; rw [if_neg (by omega), List.getD_eq_getElem?_getD, hp (by omega)]; exact hc7.2)]
          rw [he, if_pos (by simp)] at hu
          refine awp_seq ?_
          refine awp_region 1 mixed (by kernel_rfl) ?_
          refine rg_q (q_build (cs := [_, _]) pl33 zr33 rfl .nil trivial rfl) ?_
          refine rg_nil ?_
          refine aops_store sz33 rfl rfl (by exact .inr ⟨_, rfl⟩) rfl rfl (by decide) rfl ?_
          refine aops_q rfl (q_assign (x := .d (.v _)) rfl) ?_
          refine aops_nil ?_
          change Awp _ _ _ _ _
          refine Awp.le (le_upB 4 (dlyC ⟨0, []⟩) rfl (.cons (.same _) (.cons (.nil 1) .nil))) ?_
          refine awp_ret ?_
          refine ⟨_, (.cons (.cellA rfl rfl sz33 rfl) (.cons (.tmp (by exact .d _)) .nil)), ?_⟩
          rw [hu]; rfl
        ·
          (try simp only [decide_eq_true_eq, decide_eq_false_iff_not, Bool.and_eq_true, Bool.or_eq_true, Bool.and_eq_false_iff, Bool.or_eq_false_iff, Bool.not_eq_true', Bool.not_eq_false', Bool.not_true, Bool.not_false, bif_and, bif_or, Bool.not_not, ne_eq, Decidable.not_not, not_true_eq_false, not_false_eq_true, Int.not_le, Int.not_lt] at hc7)
          have hnl : ¬ y ≤ prvI dead k := by
            unfold prvI
            by_cases e : k = 0
            · rw [if_pos e]; omega
            · rw [if_neg e, List.getD_eq_getElem?_getD, hp (by omega)]
              intro h
              have h : y ≤ z := h
              (simp_all; omega)
          have hsn := wthL_snoc (t := x.tk) hx y1
          have hyl : y.toNat < (wthL x.tk (dead.take k)).length := by rw [wth_len]; omega
          obtain ⟨u, hu2⟩ : ∃ u, (wthL x.tk (dead.take k))[y.toNat]? = some u := ⟨_, List.getElem?_eq_getElem hyl⟩
          have hur : ((wthL x.tk (dead.take k)).map iC)[y.toNat]? = some (iC u) := by rw [List.getElem?_map, hu2]; rfl
          have hkl : y < ((wthL x.tk (dead.take k)).map iC).length := by rw [List.length_map, wth_len]; omega
          refine awp_skip ?_
          change Awp _ _ _ _ _
          refine awp_region 6 mixed (by kernel_rfl) ?_
          refine rg_q (q_move (x := .rs _) rfl) ?_
          refine rg_q (q_move (x := .d (.sl _ _)) rfl) ?_
          refine rg_q (q_move (x := .d (.v _)) rfl) ?_
          refine rg_q (q_indexAddr sl31 rfl rfl (by omega) (map_at (by omega) hx)) ?_
          refine rg_q (q_load sz3 rfl rfl) ?_
          refine rg_q (q_indexAddr_rs sl31 rfl rfl rfl (by omega) (by omega)) ?_
          refine rg_nil ?_
          refine aops_store_row sz3 rfl rfl (by exact .inl rfl) rfl rfl (i := y.toNat) (j := 0) (es' := (wthL x.tk (dead.take (k + 1))).map iC) (by omega) hur (by decide) (by rw [← hsn]; exact setI_map _ _ _ rfl) ?_
          refine aops_nil ?_
          change Awp _ _ _ _ _
          refine awp_region 3 mixed (by kernel_rfl) ?_
          refine rg_q (q_move (x := .d (.v _)) rfl) ?_
          refine rg_q (q_add rfl rfl (In64.mk (by omega) (by omega))) ?_
          refine rg_q (q_assign (x := .d (.v _)) rfl) ?_
          refine rg_nil ?_
          refine aops_nil ?_
          refine ⟨k + 1, ⟨by omega, by rw [hf, hd, if_neg (by rw [hq]; simp), if_neg hnl]⟩, by omega, ?_⟩
          exact le_head (ms := [10]) (by repeat (first | exact Out.head rfl rfl | (refine Out.put ?_ rfl) | (refine Out.site ?_ rfl))) ⟨(by rfl), trivial⟩ ⟨(by rfl), trivial⟩ rfl rfl rfl rfl
    ·
      (try simp only [decide_eq_true_eq, decide_eq_false_iff_not, Bool.and_eq_true, Bool.or_eq_true, Bool.and_eq_false_iff, Bool.or_eq_false_iff, Bool.not_eq_true', Bool.not_eq_false', Bool.not_true, Bool.not_false, bif_and, bif_or, Bool.not_not, ne_eq, Decidable.not_not, not_true_eq_false, not_false_eq_true, Int.not_le, Int.not_lt] at hc3)
      have hkl : k = dead.length := by omega
      subst hkl
      have hzz : dedE x.tk.length (-1) dead = 0 := by rw [hf, List.drop_length]; rfl
      rw [if_neg (by rw [hzz]; simp)] at hu
      have hw0 : (wthL x.tk (dead.take dead.length)).map iC = (wth x dead).tk.map iC := by rw [List.take_length]; rfl
      refine awp_exit ?_
      change Awp _ _ _ _ _
      refine awp_seq ?_
      refine Awp.le (le_freezeR (es := (wth x dead).tk.map iC) 10 6 (by show Site.row _ _ _ = _; rw [hw0]) rfl rfl rfl hmine) ?_
      refine awp_region 4 mixed (by kernel_rfl) ?_
      refine rg_q (q_fieldAddr fld33_0 rfl) ?_
      refine rg_q (q_load sz3 rfl rfl) ?_
      refine rg_q (q_move (x := .d (.sl _ _)) rfl) ?_
      refine rg_q (q_build (cs := [_, _]) pl33 zr33 rfl (.cons rfl (by exact .inl rfl) (.cons rfl (by exact .inl rfl) .nil)) ⟨⟨rfl, by decide⟩, ⟨rfl, by decide⟩, trivial⟩ rfl) ?_
      refine rg_nil ?_
      refine aops_store sz33 rfl rfl (by exact .inr ⟨_, rfl⟩) rfl rfl (by decide) rfl ?_
      refine aops_q rfl (q_assign (x := .d (.v _)) rfl) ?_
      refine aops_nil ?_
      change Awp _ _ _ _ _
      refine awp_ret ?_
      refine ⟨_, (.cons (.cellA rfl rfl sz33 rfl) (.cons (.tmp (by exact .d _)) .nil)), ?_⟩
      rw [hu]; rfl
set_option maxRecDepth 100000 in
theorem lawChanges_p (x : Dly) (dead : List Int) (c : Int) : PCG Tryz.prog GW 15 [.agg (dlyC x), .sl 1 (dead.map iC), .v (.int .i64 (c))] (.v (.bool (true))) := by
  refine pcg_of_awpN gw_keep Tryz.func15 rfl Tryz.ntmps15 (rs := [.tmp 6]) Tryz.results15 (by simp) fun w0 hmine hrnd hpn hG => ?_
  refine awp_seq ?_
  refine awp_region 2 mixed (by kernel_rfl) ?_
  refine rg_q (q_box rfl (by exact .inr ⟨_, rfl⟩)) ?_
  refine rg_q (q_assign (x := .d (.v _)) rfl) ?_
  refine rg_nil ?_
  refine aops_nil ?_
  change Awp _ _ _ _ _
  refine awp_seq ?_
  refine awp_seq ?_
  refine awp_region 2 mixed (by kernel_rfl) ?_
  refine rg_q (q_callG en17 .nil rfl hG (awake_p)) ?_
  refine rg_q (q_not rfl) ?_
  refine rg_nil ?_
  refine aops_nil ?_
  change Awp _ _ _ _ _
  refine awp_cond rfl (fun hc1 => ?_) (fun hc1 => ?_)
  ·
    simp at hc1
  ·
    (try simp only [decide_eq_true_eq, decide_eq_false_iff_not, Bool.and_eq_true, Bool.or_eq_true, Bool.and_eq_false_iff, Bool.or_eq_false_iff, Bool.not_eq_true', Bool.not_eq_false', Bool.not_true, Bool.not_false, bif_and, bif_or, Bool.not_not, ne_eq, Decidable.not_not, not_true_eq_false, not_false_eq_true, Int.not_le, Int.not_lt] at hc1)
    refine awp_skip ?_
    change Awp _ _ _ _ _
    refine awp_seq ?_
    refine awp_seq ?_
    refine awp_region 11 mixed (by kernel_rfl) ?_
    refine rg_q (q_fieldAddr fld33_1 rfl) ?_
    refine rg_q (q_load sz31 rfl rfl) ?_
    refine rg_q (q_len isl31 rfl (by exact len_map _ _)) ?_
    refine rg_q (q_call en18 (.cons rfl .nil) rfl (few_p _)) ?_
    refine rg_q (q_not rfl) ?_
    refine rg_q (q_move (x := .d (.v _)) rfl) ?_
    refine rg_g rfl rfl (fun hG => (q_move (x := .d (.sl _ _)) rfl)) ?_
    refine rg_g rfl rfl (fun hG => (q_len isl31 rfl (by exact len_map _ _))) ?_
    refine rg_g rfl rfl (fun hG => (q_call en18 (.cons rfl .nil) rfl (few_p _))) ?_
    refine rg_g rfl rfl (fun hG => (q_not rfl)) ?_
    refine rg_pick rfl rfl rfl rfl rfl rfl ?_
    refine rg_nil ?_
    refine aops_nil ?_
    change Awp _ _ _ _ _
    refine awp_len (t := 21) rfl (fun hl21 => ?_)
    (try simp only [List.length_map] at hl21)
    refine awp_cond rfl (fun hc3 => ?_) (fun hc3 => ?_)
    ·
      (try simp only [decide_eq_true_eq, decide_eq_false_iff_not, Bool.and_eq_true, Bool.or_eq_true, Bool.and_eq_false_iff, Bool.or_eq_false_iff, Bool.not_eq_true', Bool.not_eq_false', Bool.not_true, Bool.not_false, bif_and, bif_or, Bool.not_not, ne_eq, Decidable.not_not, not_true_eq_false, not_false_eq_true, Int.not_le, Int.not_lt] at hc3)
      refine awp_seq ?_
      refine awp_region 1 mixed (by kernel_rfl) ?_
      refine rg_q (q_assign (x := .d (.v _)) rfl) ?_
      refine rg_nil ?_
      refine aops_nil ?_
      change Awp _ _ _ _ _
      refine awp_ret ?_
      refine ⟨_, (.cons (.tmp (by exact .d _)) .nil), ?_⟩
      rfl
    ·
      (try simp only [decide_eq_true_eq, decide_eq_false_iff_not, Bool.and_eq_true, Bool.or_eq_true, Bool.and_eq_false_iff, Bool.or_eq_false_iff, Bool.not_eq_true', Bool.not_eq_false', Bool.not_true, Bool.not_false, bif_and, bif_or, Bool.not_not, ne_eq, Decidable.not_not, not_true_eq_false, not_false_eq_true, Int.not_le, Int.not_lt] at hc3)
      have hl1 : x.tk.length ≤ 18 := by omega
      have hl2 : dead.length ≤ 18 := by omega
      refine awp_skip ?_
      change Awp _ _ _ _ _
      refine awp_seq ?_
      refine awp_region 8 mixed (by kernel_rfl) ?_
      refine rg_q (q_loadA (ds := [_, _]) sz33 rfl rfl rfl) ?_
      refine rg_q (q_call en26 (.cons rfl .nil) rfl (copyLaw_p _ (by omega))) ?_
      refine rg_q (q_move (x := .d (.sl _ _)) rfl) ?_
      refine rg_q (q_call en61 (.cons rfl .nil) rfl (copyInts_p _ (by omega))) ?_
      refine rg_q (q_call en42 (.cons rfl (.cons rfl .nil)) rfl (without_p _ _)) ?_
      refine rg_q (q_move (x := .d (.tup _)) rfl) ?_
      refine rg_q (q_extract rfl rfl) ?_
      refine rg_q (q_extract rfl rfl) ?_
      refine rg_nil ?_
      refine aops_alloc zr33 rfl rfl rfl ?_
      refine aops_store sz33 rfl rfl (by exact .inr ⟨_, rfl⟩) rfl rfl (by decide) rfl ?_
      refine aops_q rfl (q_assign (x := .d (.v _)) rfl) ?_
      refine aops_nil ?_
      change Awp _ _ _ _ _
      refine awp_seq ?_
      refine awp_region 8 mixed (by kernel_rfl) ?_
      refine rg_q (q_loadA (ds := [_, _]) sz33 rfl rfl rfl) ?_
      refine rg_q (q_call en26 (.cons rfl .nil) rfl (copyLaw_p _ (by omega))) ?_
      refine rg_q (q_call en68 (.cons rfl .nil) rfl (sending_p _)) ?_
      refine rg_q (q_move (x := .d (.tup _)) rfl) ?_
      refine rg_q (q_extract rfl rfl) ?_
      refine rg_q (q_extract rfl rfl) ?_
      refine rg_q (q_assign (x := .d (.sl _ _)) rfl) ?_
      refine rg_q (q_assign (x := .d (.v _)) rfl) ?_
      refine rg_nil ?_
      refine aops_nil ?_
      change Awp _ _ _ _ _
      refine awp_seq ?_
      refine awp_region 7 mixed (by kernel_rfl) ?_
      refine rg_q (q_loadA (ds := [_, _]) sz33 rfl rfl rfl) ?_
      refine rg_q (q_call en26 (.cons rfl .nil) rfl (copyLaw_p _ (by omega))) ?_
      refine rg_q (q_move (x := .d (.v _)) rfl) ?_
      refine rg_q (q_call en69 (.cons rfl (.cons rfl .nil)) rfl (recast_p _ _)) ?_
      refine rg_q (q_move (x := .d (.tup _)) rfl) ?_
      refine rg_q (q_extract rfl rfl) ?_
      refine rg_q (q_extract rfl rfl) ?_
      refine rg_nil ?_
      refine aops_alloc zr33 rfl rfl rfl ?_
      refine aops_store sz33 rfl rfl (by exact .inr ⟨_, rfl⟩) rfl rfl (by decide) rfl ?_
      refine aops_q rfl (q_assign (x := .d (.v _)) rfl) ?_
      refine aops_nil ?_
      change Awp _ _ _ _ _
      refine awp_seq ?_
      refine awp_seq ?_
      refine awp_region 3 mixed (by kernel_rfl) ?_
      refine rg_q (q_loadA (ds := [_, _]) sz33 rfl rfl rfl) ?_
      refine rg_q (q_call en65 (.cons rfl .nil) rfl (ylawErr_p _)) ?_
      refine rg_q (q_assign (x := .d (.v _)) rfl) ?_
      refine rg_nil ?_
      refine aops_nil ?_
      change Awp _ _ _ _ _
      refine awp_seq ?_
      refine awp_region 2 mixed (by kernel_rfl) ?_
      refine rg_q (q_move (x := .d (.v _)) rfl) ?_
      refine rg_q (q_neq rfl rfl) ?_
      refine rg_nil ?_
      refine aops_nil ?_
      change Awp _ _ _ _ _
      refine awp_cond rfl (fun hc9 => ?_) (fun hc9 => ?_)
      ·
        (try simp only [decide_eq_true_eq, decide_eq_false_iff_not, Bool.and_eq_true, Bool.or_eq_true, Bool.and_eq_false_iff, Bool.or_eq_false_iff, Bool.not_eq_true', Bool.not_eq_false', Bool.not_true, Bool.not_false, bif_and, bif_or, Bool.not_not, ne_eq, Decidable.not_not, not_true_eq_false, not_false_eq_true, Int.not_le, Int.not_lt] at hc9)
        have hw : wthR x dead = (⟨0, []⟩, (ckLaw x).2) := by unfold wthR; rw [if_pos hc9]
        have hs : sendR x = ([], (ckLaw x).2) := by unfold sendR; rw [if_pos hc9]
        have hr : rcsR x c = (⟨0, []⟩, (ckLaw x).2) := by
          have e : rcsE x c = (ckLaw x).2 := by unfold rcsE firstE; rw [if_neg hc9]
          unfold rcsR; rw [e, if_pos hc9]
        rw [hw, hs, hr]
        refine awp_seq ?_
        refine awp_region 27 mixed (by kernel_rfl) ?_
        refine rg_q (q_move (x := .d (.v _)) rfl) ?_
        refine rg_q (q_move (x := .d (.v _)) rfl) ?_
        refine rg_q (q_eql rfl rfl) ?_
        refine rg_q (q_move (x := .d (.v _)) rfl) ?_
        refine rg_g rfl rfl (fun hG => (q_move (x := .d (.v _)) rfl)) ?_
        refine rg_g rfl rfl (fun hG => (q_move (x := .d (.v _)) rfl)) ?_
        refine rg_g rfl rfl (fun hG => (q_eql rfl rfl)) ?_
        refine rg_pick rfl rfl rfl rfl rfl rfl ?_
        refine rg_q (q_move (x := .d (.v _)) rfl) ?_
        refine rg_g rfl rfl (fun hG => (q_move (x := .d (.v _)) rfl)) ?_
        refine rg_g rfl rfl (fun hG => (q_move (x := .d (.v _)) rfl)) ?_
        refine rg_g rfl rfl (fun hG => (q_eql rfl rfl)) ?_
        refine rg_pick rfl rfl rfl rfl rfl rfl ?_
        refine rg_q (q_move (x := .d (.v _)) rfl) ?_
        refine rg_g rfl rfl (fun hG => (q_fieldAddr_ref fld33_1 rfl)) ?_
        refine rg_g rfl rfl (fun hG => (q_load_ref sz31 rfl rfl rfl)) ?_
        refine rg_g rfl rfl (fun hG => (q_len isl31 rfl (by exact len_map _ _))) ?_
        refine rg_g rfl rfl (fun hG => (q_move (x := .d (.sl _ _)) rfl)) ?_
        refine rg_g rfl rfl (fun hG => (q_len isl31 rfl (by exact len_map _ _))) ?_
        refine rg_g rfl rfl (fun hG => (q_add rfl rfl (In64.mk (by (have hg0 := T.bool_inj (a := _) hG.1; (try simp only [decide_eq_true_eq, decide_eq_false_iff_not, Bool.and_eq_true, Bool.or_eq_true, Bool.and_eq_false_iff, Bool.or_eq_false_iff, Bool.not_eq_true', Bool.not_eq_false', Bool.not_true, Bool.not_false, bif_and, bif_or, Bool.not_not, ne_eq, Decidable.not_not, not_true_eq_false, not_false_eq_true, Int.not_le, Int.not_lt] at hg0); omega)) (by (have hg0 := T.bool_inj (a := _) hG.1; (try simp only [decide_eq_true_eq, decide_eq_false_iff_not, Bool.and_eq_true, Bool.or_eq_true, Bool.and_eq_false_iff, Bool.or_eq_false_iff, Bool.not_eq_true', Bool.not_eq_false', Bool.not_true, Bool.not_false, bif_and, bif_or, Bool.not_not, ne_eq, Decidable.not_not, not_true_eq_false, not_false_eq_true, Int.not_le, Int.not_lt] at hg0); (simp only [List.length_nil, List.length_map]; omega)))))) ?_
        refine rg_g rfl rfl (fun hG => (q_fieldAddr_ref fld33_1 rfl)) ?_
        refine rg_g rfl rfl (fun hG => (q_load_ref sz31 rfl rfl rfl)) ?_
        refine rg_g rfl rfl (fun hG => (q_len isl31 rfl (by exact len_map _ _))) ?_
        refine rg_g rfl rfl (fun hG => (q_add rfl rfl (In64.mk (by (have hg0 := T.bool_inj (a := _) hG.1; (try simp only [decide_eq_true_eq, decide_eq_false_iff_not, Bool.and_eq_true, Bool.or_eq_true, Bool.and_eq_false_iff, Bool.or_eq_false_iff, Bool.not_eq_true', Bool.not_eq_false', Bool.not_true, Bool.not_false, bif_and, bif_or, Bool.not_not, ne_eq, Decidable.not_not, not_true_eq_false, not_false_eq_true, Int.not_le, Int.not_lt] at hg0); omega)) (by (have hg0 := T.bool_inj (a := _) hG.1; (try simp only [decide_eq_true_eq, decide_eq_false_iff_not, Bool.and_eq_true, Bool.or_eq_true, Bool.and_eq_false_iff, Bool.or_eq_false_iff, Bool.not_eq_true', Bool.not_eq_false', Bool.not_true, Bool.not_false, bif_and, bif_or, Bool.not_not, ne_eq, Decidable.not_not, not_true_eq_false, not_false_eq_true, Int.not_le, Int.not_lt] at hg0); (simp only [List.length_nil, List.length_map]; omega)))))) ?_
        refine rg_g rfl rfl (fun hG => (q_eql rfl rfl)) ?_
        refine rg_pick rfl rfl rfl rfl rfl rfl ?_
        refine rg_q (q_assign (x := .d (.v _)) rfl) ?_
        refine rg_nil ?_
        refine aops_nil ?_
        change Awp _ _ _ _ _
        refine awp_ret ?_
        refine ⟨_, (.cons (.tmp (by exact .d _)) .nil), ?_⟩
        simp [retD]
      ·
        (try simp only [decide_eq_true_eq, decide_eq_false_iff_not, Bool.and_eq_true, Bool.or_eq_true, Bool.and_eq_false_iff, Bool.or_eq_false_iff, Bool.not_eq_true', Bool.not_eq_false', Bool.not_true, Bool.not_false, bif_and, bif_or, Bool.not_not, ne_eq, Decidable.not_not, not_true_eq_false, not_false_eq_true, Int.not_le, Int.not_lt] at hc9)
        have hx0 : (ckLaw x).2 = 0 := hc9
        have hs : sendR x = (whoL x, 0) := by unfold sendR whoL; rw [if_neg (fun q => q hx0)]
        refine awp_skip ?_
        change Awp _ _ _ _ _
        refine awp_seq ?_
        refine awp_region 6 mixed (by kernel_rfl) ?_
        refine rg_q (q_loadA (ds := [_, _]) sz33 rfl rfl rfl) ?_
        refine rg_q (q_move (x := .d (.sl _ _)) rfl) ?_
        refine rg_q (q_call en70 (.cons rfl (.cons rfl .nil)) rfl (rwithout_p x dead hx0)) ?_
        refine rg_q (q_move (x := .d (.tup _)) rfl) ?_
        refine rg_q (q_extract rfl rfl) ?_
        refine rg_q (q_extract rfl rfl) ?_
        refine rg_nil ?_
        refine aops_alloc zr33 rfl rfl rfl ?_
        refine aops_store sz33 rfl rfl (by exact .inr ⟨_, rfl⟩) rfl rfl (by decide) rfl ?_
        refine aops_q rfl (q_assign (x := .d (.v _)) rfl) ?_
        refine aops_nil ?_
        change Awp _ _ _ _ _
        refine awp_seq ?_
        refine awp_region 0 mixed (by kernel_rfl) ?_
        refine rg_nil ?_
        refine aops_alloc zr33 rfl rfl rfl ?_
        refine aops_nil ?_
        change Awp _ _ _ _ _
        refine Awp.le (le_upB 16 (dlyC ⟨0, []⟩) rfl (.cons (.same _) (.cons (.nil 1) .nil))) ?_
        refine awp_seq ?_
        refine awp_region 3 mixed (by kernel_rfl) ?_
        refine rg_q (q_move (x := .d (.v _)) rfl) ?_
        refine rg_q (q_call en71 (.cons rfl .nil) rfl (rclockErr_p _)) ?_
        refine rg_q (q_assign (x := .d (.v _)) rfl) ?_
        refine rg_nil ?_
        refine aops_nil ?_
        change Awp _ _ _ _ _
        refine awp_seq ?_
        refine awp_seq ?_
        refine awp_region 2 mixed (by kernel_rfl) ?_
        refine rg_q (q_move (x := .d (.v _)) rfl) ?_
        refine rg_q (q_eql rfl rfl) ?_
        refine rg_nil ?_
        refine aops_nil ?_
        change Awp _ _ _ _ _
        refine awp_cond rfl (fun hc14 => ?_) (fun hc14 => ?_)
        ·
          (try simp only [decide_eq_true_eq, decide_eq_false_iff_not, Bool.and_eq_true, Bool.or_eq_true, Bool.and_eq_false_iff, Bool.or_eq_false_iff, Bool.not_eq_true', Bool.not_eq_false', Bool.not_true, Bool.not_false, bif_and, bif_or, Bool.not_not, ne_eq, Decidable.not_not, not_true_eq_false, not_false_eq_true, Int.not_le, Int.not_lt] at hc14)
          have hc0 : clkE c = 0 := by omega
          refine awp_region 6 mixed (by kernel_rfl) ?_
          refine rg_q (q_loadA (ds := [_, _]) sz33 rfl rfl rfl) ?_
          refine rg_q (q_move (x := .d (.v _)) rfl) ?_
          refine rg_q (q_call en72 (.cons rfl (.cons rfl .nil)) rfl (rrecast_p x c hx0 hc0)) ?_
          refine rg_q (q_move (x := .d (.tup _)) rfl) ?_
          refine rg_q (q_extract rfl rfl) ?_
          refine rg_q (q_extract rfl rfl) ?_
          refine rg_nil ?_
          refine aops_store sz33 rfl rfl (by exact .inr ⟨_, rfl⟩) rfl rfl (by decide) rfl ?_
          refine aops_q rfl (q_assign (x := .d (.v _)) rfl) ?_
          refine aops_nil ?_
          change Awp _ _ _ _ _
          refine awp_seq ?_
          refine awp_region 29 mixed (by kernel_rfl) ?_
          refine rg_q (q_move (x := .d (.v _)) rfl) ?_
          refine rg_q (q_move (x := .d (.v _)) rfl) ?_
          refine rg_q (q_eql rfl rfl) ?_
          refine rg_q (q_move (x := .d (.v _)) rfl) ?_
          refine rg_g rfl rfl (fun hG => (q_load_refA (ds := [_, _]) sz33 rfl rfl rfl rfl)) ?_
          refine rg_g rfl rfl (fun hG => (q_load_refA (ds := [_, _]) sz33 rfl rfl rfl rfl)) ?_
          refine rg_g rfl rfl (fun hG => (q_call en24 (.cons rfl (.cons rfl .nil)) rfl (same_p _ _))) ?_
          refine rg_pick rfl rfl rfl rfl rfl rfl ?_
          refine rg_q (q_move (x := .d (.v _)) rfl) ?_
          refine rg_g rfl rfl (fun hG => (q_move (x := .d (.v _)) rfl)) ?_
          refine rg_g rfl rfl (fun hG => (q_eql rfl rfl)) ?_
          refine rg_pick rfl rfl rfl rfl rfl rfl ?_
          refine rg_q (q_move (x := .d (.v _)) rfl) ?_
          refine rg_g rfl rfl (fun hG => (q_move (x := .d (.sl _ _)) rfl)) ?_
          refine rg_g rfl rfl (fun hG => (q_loadA (ds := [_, _]) sz33 rfl rfl rfl)) ?_
          refine rg_g rfl rfl (fun hG => (q_call en74 (.cons rfl .nil) rfl (rsending_p _ (by omega)))) ?_
          refine rg_g rfl rfl (fun hG => (q_call en73 (.cons rfl (.cons rfl .nil)) rfl (ints_p (sendR x).1 (whoL x)))) ?_
          refine rg_pick rfl rfl rfl rfl rfl rfl ?_
          refine rg_q (q_move (x := .d (.v _)) rfl) ?_
          refine rg_g rfl rfl (fun hG => (q_move (x := .d (.v _)) rfl)) ?_
          refine rg_g rfl rfl (fun hG => (q_move (x := .d (.v _)) rfl)) ?_
          refine rg_g rfl rfl (fun hG => (q_eql rfl rfl)) ?_
          refine rg_pick rfl rfl rfl rfl rfl rfl ?_
          refine rg_q (q_move (x := .d (.v _)) rfl) ?_
          refine rg_g rfl rfl (fun hG => (q_load_refA (ds := [_, _]) sz33 rfl rfl rfl rfl)) ?_
          refine rg_g rfl rfl (fun hG => (q_load_refA (ds := [_, _]) sz33 rfl rfl rfl rfl)) ?_
          refine rg_g rfl rfl (fun hG => (q_call en24 (.cons rfl (.cons rfl .nil)) rfl (same_p _ _))) ?_
          refine rg_pick rfl rfl rfl rfl rfl rfl ?_
          refine rg_q (q_assign (x := .d (.v _)) rfl) ?_
          refine rg_nil ?_
          refine aops_nil ?_
          change Awp _ _ _ _ _
          refine awp_ret ?_
          refine ⟨_, (.cons (.tmp (by exact .d _)) .nil), ?_⟩
          rw [hs]; simp [retD]
        ·
          (try simp only [decide_eq_true_eq, decide_eq_false_iff_not, Bool.and_eq_true, Bool.or_eq_true, Bool.and_eq_false_iff, Bool.or_eq_false_iff, Bool.not_eq_true', Bool.not_eq_false', Bool.not_true, Bool.not_false, bif_and, bif_or, Bool.not_not, ne_eq, Decidable.not_not, not_true_eq_false, not_false_eq_true, Int.not_le, Int.not_lt] at hc14)
          have hr : rcsR x c = (⟨0, []⟩, clkE c) := by
            have e : rcsE x c = clkE c := by unfold rcsE firstE; rw [if_pos hx0]; unfold firstE; rw [if_neg hc14]
            unfold rcsR; rw [e, if_pos hc14]
          refine awp_skip ?_
          change Awp _ _ _ _ _
          refine awp_seq ?_
          refine awp_region 29 mixed (by kernel_rfl) ?_
          refine rg_q (q_move (x := .d (.v _)) rfl) ?_
          refine rg_q (q_move (x := .d (.v _)) rfl) ?_
          refine rg_q (q_eql rfl rfl) ?_
          refine rg_q (q_move (x := .d (.v _)) rfl) ?_
          refine rg_g rfl rfl (fun hG => (q_load_refA (ds := [_, _]) sz33 rfl rfl rfl rfl)) ?_
          refine rg_g rfl rfl (fun hG => (q_load_refA (ds := [_, _]) sz33 rfl rfl rfl rfl)) ?_
          refine rg_g rfl rfl (fun hG => (q_call en24 (.cons rfl (.cons rfl .nil)) rfl (same_p _ _))) ?_
          refine rg_pick rfl rfl rfl rfl rfl rfl ?_
          refine rg_q (q_move (x := .d (.v _)) rfl) ?_
          refine rg_g rfl rfl (fun hG => (q_move (x := .d (.v _)) rfl)) ?_
          refine rg_g rfl rfl (fun hG => (q_eql rfl rfl)) ?_
          refine rg_pick rfl rfl rfl rfl rfl rfl ?_
          refine rg_q (q_move (x := .d (.v _)) rfl) ?_
          refine rg_g rfl rfl (fun hG => (q_move (x := .d (.sl _ _)) rfl)) ?_
          refine rg_g rfl rfl (fun hG => (q_loadA (ds := [_, _]) sz33 rfl rfl rfl)) ?_
          refine rg_g rfl rfl (fun hG => (q_call en74 (.cons rfl .nil) rfl (rsending_p _ (by omega)))) ?_
          refine rg_g rfl rfl (fun hG => (q_call en73 (.cons rfl (.cons rfl .nil)) rfl (ints_p (sendR x).1 (whoL x)))) ?_
          refine rg_pick rfl rfl rfl rfl rfl rfl ?_
          refine rg_q (q_move (x := .d (.v _)) rfl) ?_
          refine rg_g rfl rfl (fun hG => (q_move (x := .d (.v _)) rfl)) ?_
          refine rg_g rfl rfl (fun hG => (q_move (x := .d (.v _)) rfl)) ?_
          refine rg_g rfl rfl (fun hG => (q_eql rfl rfl)) ?_
          refine rg_pick rfl rfl rfl rfl rfl rfl ?_
          refine rg_q (q_move (x := .d (.v _)) rfl) ?_
          refine rg_g rfl rfl (fun hG => (q_load_refA (ds := [_, _]) sz33 rfl rfl rfl rfl)) ?_
          refine rg_g rfl rfl (fun hG => (q_load_refA (ds := [_, _]) sz33 rfl rfl rfl rfl)) ?_
          refine rg_g rfl rfl (fun hG => (q_call en24 (.cons rfl (.cons rfl .nil)) rfl (same_p _ _))) ?_
          refine rg_pick rfl rfl rfl rfl rfl rfl ?_
          refine rg_q (q_assign (x := .d (.v _)) rfl) ?_
          refine rg_nil ?_
          refine aops_nil ?_
          change Awp _ _ _ _ _
          refine awp_ret ?_
          refine ⟨_, (.cons (.tmp (by exact .d _)) .nil), ?_⟩
          rw [hs, hr]; simp [retD]
end Go.Proofs.YtgeieocphgnipaaGreatDoor.Am.M
