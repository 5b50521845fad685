/- Contracts over the abstract machine: laws of foci: the code at any array, the reference, LawFoci. Conditions: none. -/
import Derived.Test.YtgeieocphgnipaaGreatDoorG16
import Derived.Test.YtgeieocphgnipaaGreatDoorG11
set_option linter.unusedVariables false
set_option linter.unusedSimpArgs false
-- mini
namespace Go.Proofs.YtgeieocphgnipaaGreatDoor.Am.M
open Go
set_option maxRecDepth 100000 in
theorem focusedR_p (a : Lar) (p : Int × Int) (c1 : 1 ≤ a.ck) (c2 : a.ck ≤ 1000000) (n1 : 1 ≤ a.el.length) (n2 : a.el.length ≤ 16) (hE : ∀ s ∈ a.el, (ltI a.md s p).2 = 0) : PC Tryz.prog 82 [.agg (larC a), .agg (shC p)] (.tup [.agg (dlyC (bltR (fcI a p) a.ck a.el.length).1), .v (.int .i64 ((bltR (fcI a p) a.ck a.el.length).2))]) := by
  obtain ⟨m1, m2⟩ := maxF_in (fcT_in (a := a) (p := p)) (by omega)
  have htl : (fcT a p).length = a.el.length := by unfold fcT; rw [List.length_map]
  refine pc_of_awpN Tryz.func82 rfl Tryz.ntmps82 (rs := [.cell 4 33, .tmp 5]) Tryz.results82 (by simp) fun w0 hmine hrnd hpn => ?_
  refine awp_seq ?_
  refine awp_region 2 mixed (by kernel_rfl) ?_
  refine rg_q (q_box rfl (by exact .inr ⟨_, rfl⟩)) ?_
  refine rg_q (q_box rfl (by exact .inr ⟨_, rfl⟩)) ?_
  refine rg_nil ?_
  refine aops_alloc zr33 rfl rfl rfl ?_
  refine aops_q rfl (q_assign (x := .d (.v _)) rfl) ?_
  refine aops_nil ?_
  change Awp _ _ _ _ _
  refine awp_seq ?_
  refine awp_region 0 mixed (by kernel_rfl) ?_
  refine rg_nil ?_
  refine aops_alloc zr31 rfl rfl rfl ?_
  refine aops_nil ?_
  change Awp _ _ _ _ _
  refine awp_seq ?_
  refine awp_seq ?_
  refine Awp.le (le_ownB 6 34 0 3 1 rfl rfl rfl) ?_
  refine awp_region 4 mixed (by kernel_rfl) ?_
  refine rg_q (q_fieldAddr fld26_0 rfl) ?_
  refine rg_q (q_load sz22 rfl rfl) ?_
  refine rg_q (q_len isl22 rfl (by exact len_map _ _)) ?_
  refine rg_q (q_move (x := .d (.v _)) rfl) ?_
  refine rg_nil ?_
  refine aops_nil ?_
  change Awp _ _ _ _ _
  refine awp_len (t := 13) rfl (fun hl13 => ?_)
  (try simp only [List.length_map] at hl13)
  refine awp_block ?_
  refine awp_loopH [5, 8, 9, 10, 15, 16, 17, 18, 19, 20, 21, 22, 23, 24, 25, 26, 27, 28, 29, 30, 31, 32, 33, 34, 35] [6, 34] (α := Nat) (fun k => [(15, T.i (k : Int))]) (fun k => [(6, .tbox [.rs 34]), (34, .row 3 1 ((a.el.take k).map fun s => iC (rtI a.md s p)))]) (fun k => k ≤ a.el.length) (fun k => a.el.length - k) 0 (Nat.zero_le _) ?_ ?_
  · exact le_head (ms := [6, 34]) (by repeat (exact Out.refl _)) ⟨(by rfl), trivial⟩ ⟨(by rfl), (by rfl), trivial⟩ rfl rfl rfl rfl
  ·
    intro k hk
    refine awp_seq ?_
    refine awp_region 1 mixed (by kernel_rfl) ?_
    refine rg_q (q_lss rfl rfl) ?_
    refine rg_nil ?_
    refine aops_nil ?_
    change Awp _ _ _ _ _
    refine awp_seq ?_
    refine awp_cond rfl (fun hc3 => ?_) (fun hc3 => ?_)
    ·
      (try simp only [decide_eq_true_eq, decide_eq_false_iff_not, Bool.and_eq_true, Bool.or_eq_true, Bool.and_eq_false_iff, Bool.or_eq_false_iff, Bool.not_eq_true', Bool.not_eq_false', Bool.not_true, Bool.not_false, bif_and, bif_or, Bool.not_not, ne_eq, Decidable.not_not, not_true_eq_false, not_false_eq_true, Int.not_le, Int.not_lt] at hc3)
      have hlt : k < a.el.length := by omega
      obtain ⟨x, hx⟩ : ∃ x, a.el[k]? = some x := ⟨_, List.getElem?_eq_getElem hlt⟩
      have he0 := hE x (List.mem_of_getElem? hx)
      have hsk : ((a.el.take (k + 1)).map fun s => iC (rtI a.md s p)) = ((a.el.take k).map fun s => iC (rtI a.md s p)) ++ [iC (rtI a.md x p)] := by
        rw [List.take_succ_eq_append_getElem hlt, List.map_append, (List.getElem?_eq_some_iff.1 hx).2]; rfl
      have hln : (a.el.take k).length ≤ 16 := by rw [List.length_take]; omega
      refine awp_skip ?_
      change Awp _ _ _ _ _
      refine awp_seq ?_
      refine awp_block ?_
      refine awp_seq ?_
      refine awp_region 2 mixed (by kernel_rfl) ?_
      refine rg_q (q_indexAddr sl22 rfl rfl (by omega) (map_at (by omega) hx)) ?_
      refine rg_q (q_loadA (ds := [_, _]) sz28 rfl rfl rfl) ?_
      refine rg_nil ?_
      refine aops_alloc zr28 rfl rfl rfl ?_
      refine aops_store sz28 rfl rfl (by exact .inr ⟨_, rfl⟩) rfl rfl (by decide) rfl ?_
      refine aops_nil ?_
      change Awp _ _ _ _ _
      refine awp_seq ?_
      refine awp_region 10 mixed (by kernel_rfl) ?_
      refine rg_q (q_fieldAddr fld26_1 rfl) ?_
      refine rg_q (q_loadA (ds := [_, _, _, _]) sz24 rfl rfl rfl) ?_
      refine rg_q (q_load_refA (ds := [_, _]) sz28 rfl rfl rfl rfl) ?_
      refine rg_q (q_loadA (ds := [_, _]) sz28 rfl rfl rfl) ?_
      refine rg_q (q_call en130 (.cons rfl (.cons rfl (.cons rfl .nil))) rfl (roundedTime_p a.md x p)) ?_
      refine rg_q (q_move (x := .d (.tup _)) rfl) ?_
      refine rg_q (q_extract rfl rfl) ?_
      refine rg_q (q_extract rfl rfl) ?_
      refine rg_q (q_assign (x := .d (.v _)) rfl) ?_
      refine rg_q (q_assign (x := .d (.v _)) rfl) ?_
      refine rg_nil ?_
      refine aops_nil ?_
      change Awp _ _ _ _ _
      refine awp_seq ?_
      refine awp_seq ?_
      refine awp_region 2 mixed (by kernel_rfl) ?_
      refine rg_q (q_move (x := .d (.v _)) rfl) ?_
      refine rg_q (q_neq rfl rfl) ?_
      refine rg_nil ?_
      refine aops_nil ?_
      change Awp _ _ _ _ _
      refine awp_cond rfl (fun hc6 => ?_) (fun hc6 => ?_)
      ·
        exfalso; (try simp only [decide_eq_true_eq, decide_eq_false_iff_not, Bool.and_eq_true, Bool.or_eq_true, Bool.and_eq_false_iff, Bool.or_eq_false_iff, Bool.not_eq_true', Bool.not_eq_false', Bool.not_true, Bool.not_false, bif_and, bif_or, Bool.not_not, ne_eq, Decidable.not_not, not_true_eq_false, not_false_eq_true, Int.not_le, Int.not_lt] at hc6); omega
      ·
        (try simp only [decide_eq_true_eq, decide_eq_false_iff_not, Bool.and_eq_true, Bool.or_eq_true, Bool.and_eq_false_iff, Bool.or_eq_false_iff, Bool.not_eq_true', Bool.not_eq_false', Bool.not_true, Bool.not_false, bif_and, bif_or, Bool.not_not, ne_eq, Decidable.not_not, not_true_eq_false, not_false_eq_true, Int.not_le, Int.not_lt] at hc6)
        refine awp_skip ?_
        change Awp _ _ _ _ _
        refine awp_region 3 mixed (by kernel_rfl) ?_
        refine rg_q (q_load_tb (x := .rs _) sz31 rfl rfl rfl) ?_
        refine rg_q (q_move (x := .d (.v _)) rfl) ?_
        refine rg_q (q_buildSlice sl31 zr3 rfl rfl (by decide) (.cons rfl (by exact .inl rfl) .nil) ⟨rfl, rfl, trivial⟩ rfl (by decide) rfl) ?_
        refine rg_nil ?_
        refine aops_append sl31 zr3 by3 rfl (by decide) rfl rfl rfl rfl (by (try simp only [List.length_map, List.length_append, List.length_cons, List.length_nil]); omega) (by (try simp only [List.length_map, List.length_append, List.length_cons, List.length_nil]); omega) rfl rfl ?_
        refine aops_storeT (z := .rs _) sz31 rfl rfl rfl rfl (by decide) rfl ?_
        refine aops_nil ?_
        change Awp _ _ _ _ _
        refine awp_region 2 mixed (by kernel_rfl) ?_
        refine rg_q (q_add rfl rfl (In64.mk (by omega) (by omega))) ?_
        refine rg_q (q_move (x := .d (.v _)) rfl) ?_
        refine rg_nil ?_
        refine aops_nil ?_
        refine ⟨k + 1, by omega, by omega, ?_⟩
        exact le_head (ms := [6, 34]) (by repeat (first | exact Out.head rfl rfl | (refine Out.put ?_ rfl) | (refine Out.site ?_ rfl) | (refine Out.killS ?_ rfl))) ⟨(by rfl), trivial⟩ ⟨(by rfl), (by (show Site.row 3 1 (_ ++ [_]) = Site.row 3 1 _; rw [hsk]; rfl)), trivial⟩ rfl rfl rfl rfl
    ·
      (try simp only [decide_eq_true_eq, decide_eq_false_iff_not, Bool.and_eq_true, Bool.or_eq_true, Bool.and_eq_false_iff, Bool.or_eq_false_iff, Bool.not_eq_true', Bool.not_eq_false', Bool.not_true, Bool.not_false, bif_and, bif_or, Bool.not_not, ne_eq, Decidable.not_not, not_true_eq_false, not_false_eq_true, Int.not_le, Int.not_lt] at hc3)
      have hkn : k = a.el.length := by omega
      have hw0 : ((a.el.take k).map fun s => iC (rtI a.md s p)) = (fcT a p).map iC := by unfold fcT; rw [hkn, List.take_length, List.map_map]; rfl
      refine awp_exit ?_
      change Awp _ _ _ _ _
      refine awp_seq ?_
      refine Awp.le (le_freezeTB 6 34 0 (es := (fcT a p).map iC) rfl rfl (by show Site.row _ _ _ = _; rw [hw0]) rfl hmine) ?_
      refine Awp.le (le_boxT 6 [.sl 1 ((fcT a p).map iC)] rfl rfl (by intro j d h; match j, h with | 0, h => cases h; rfl)) ?_
      refine awp_region 2 mixed (by kernel_rfl) ?_
      refine rg_q (q_load_ref sz31 rfl rfl rfl) ?_
      refine rg_q (q_call en106 (.cons rfl .nil) rfl (maxI_p (fcT a p) (by omega))) ?_
      refine rg_nil ?_
      refine aops_alloc zr3 rfl rfl rfl ?_
      refine aops_store sz3 rfl rfl (by exact .inl rfl) rfl rfl (by decide) rfl ?_
      refine aops_nil ?_
      change Awp _ _ _ _ _
      refine awp_seq ?_
      refine Awp.le (le_freeze 11 11 0 (cs := [.v (.int .i64 (maxF (fcT a p)))]) rfl rfl rfl rfl hmine) ?_
      refine Awp.le (le_freeze 6 6 0 (cs := [.sl 1 ((fcT a p).map iC)]) rfl rfl rfl rfl hmine) ?_
      refine awp_region 8 mixed (by kernel_rfl) ?_
      refine rg_q (q_fieldAddr fld26_2 rfl) ?_
      refine rg_q (q_load sz3 rfl rfl) ?_
      refine rg_q (q_load sz31 rfl rfl) ?_
      refine rg_q (q_len isl31 rfl (by exact len_map _ _)) ?_
      refine rg_q (q_makeFunc (.cons rfl (.cons rfl (.cons rfl .nil)))) ?_
      refine rg_q (q_call en107 (.cons rfl (.cons rfl (.cons rfl .nil))) rfl ((by have := builtR_p (fcI a p) 131 [.pt [.v (.int .i64 (maxF (fcT a p)))] 0, .pt [.sl 1 ((fcT a p).map iC)] 0, .pt (larC a) 0] en131 a.ck a.el.length (by omega) (fun i hi => by have hg : (fcT a p)[i]? = some ((fcT a p).getD ((i : Int).toNat) 0) := (by rw [List.getD_eq_getElem?_getD, Int.toNat_natCast, List.getElem?_eq_getElem (by omega)]; rfl); have hb := fcT_in _ (List.mem_of_getElem? hg); exact focused1_p a (fcT a p) (maxF (fcT a p)) i _ hg hb.1 hb.2 m1 m2 c1 c2); (rw [htl]; exact this)))) ?_
      refine rg_q (q_extract rfl rfl) ?_
      refine rg_q (q_extract rfl rfl) ?_
      refine rg_nil ?_
      refine aops_store sz33 rfl rfl (by exact .inr ⟨_, rfl⟩) rfl rfl (by decide) rfl ?_
      refine aops_q rfl (q_assign (x := .d (.v _)) rfl) ?_
      refine aops_nil ?_
      change Awp _ _ _ _ _
      refine awp_len (t := 40) rfl (fun hl40 => ?_)
      (try simp only [List.length_map] at hl40)
      refine awp_ret ?_
      refine ⟨_, (.cons (.cellA rfl rfl sz33 rfl) (.cons (.tmp (by exact .d _)) .nil)), ?_⟩
      rfl

def focE (a : Lar) (p : Int × Int) : Int := if (ckLar a).2 ≠ 0 then (ckLar a).2 else plcE a p
theorem fold_max_zero : ∀ {l : List Int}, l ≠ [] → (∀ x ∈ l, 0 ≤ x) → l.foldl max 0 = maxF l
  | [], h, _ => absurd rfl h
  | x :: xs, _, h => by
    have := h x (by simp)
    show xs.foldl max (max 0 x) = xs.foldl max x
    rw [Int.max_eq_right this]
theorem fcT_at {a : Lar} {p s : Int × Int} {k : Nat} (h : a.el[k]? = some s) : (fcT a p)[k]? = some (rtI a.md s p) := by unfold fcT; rw [List.getElem?_map, h]; rfl
theorem fcI_at {a : Lar} {p s : Int × Int} {k : Nat} (h : a.el[k]? = some s) : fcI a p (k : Int) = rndL (maxF (fcT a p) - rtI a.md s p) a.ck := by unfold fcI; rw [List.getD_eq_getElem?_getD, Int.toNat_natCast, fcT_at h]; rfl
set_option maxRecDepth 100000 in
theorem rround2_p (n b : Int) (h1 : -1000000000000000000 ≤ n) (h2 : n ≤ 1000000000000000000) (h3 : 1 ≤ b) (h4 : b ≤ 1000000000000000000) : PC Tryz.prog 85 [.v (.int .i64 (n)), .v (.int .i64 (b))] (.v (.int .i64 (rndL n b))) := by
  refine pc_of_awp Tryz.func85 rfl Tryz.ntmps85 (rs := [.tmp 4]) Tryz.results85 (by simp) fun w0 => ?_
  refine awp_seq ?_
  refine awp_region 1 mixed (by kernel_rfl) ?_
  refine rg_q (q_assign (x := .d (.v _)) rfl) ?_
  refine rg_nil ?_
  refine aops_nil ?_
  change Awp _ _ _ _ _
  refine awp_seq ?_
  refine awp_region 8 mixed (by kernel_rfl) ?_
  refine rg_q (q_move (x := .d (.v _)) rfl) ?_
  refine rg_q (q_mul rfl rfl (In64.mk (by omega) (by omega))) ?_
  refine rg_q (q_move (x := .d (.v _)) rfl) ?_
  refine rg_q (q_add rfl rfl (In64.mk (by omega) (by omega))) ?_
  refine rg_q (q_move (x := .d (.v _)) rfl) ?_
  refine rg_q (q_mul rfl rfl (In64.mk (by omega) (by omega))) ?_
  refine rg_q (q_call en115 (.cons rfl (.cons rfl .nil)) rfl (Floor_p _ _ ⟨by omega, by omega⟩ (by omega))) ?_
  refine rg_q (q_assign (x := .d (.v _)) rfl) ?_
  refine rg_nil ?_
  refine aops_nil ?_
  change Awp _ _ _ _ _
  refine awp_ret ?_
  refine ⟨_, (.cons (.tmp (by exact .d _)) .nil), ?_⟩
  rfl
set_option maxRecDepth 100000 in
theorem rfocus_p (a : Lar) (p : Int × Int) (hk0 : (ckLar a).2 = 0) (hp : plcE a p = 0) : PC Tryz.prog 23 [.agg (larC a), .agg (shC p)] (.tup [.agg (dlyC (bltR (fcI a p) a.ck a.el.length).1), .v (.int .i64 ((bltR (fcI a p) a.ck a.el.length).2))]) := by
  have hla := (lar_ok hk0).1
  have hn1 := hla.n1
  have hn2 := hla.n2
  have hc1 := hla.c1
  have hc22 := hla.c2
  have hfl : (fcT a p).length = a.el.length := List.length_map _
  have hne : fcT a p ≠ [] := fun e => by have := congrArg List.length e; simp only [List.length_nil] at this; omega
  obtain ⟨m1, m2⟩ := maxF_in (fcT_in (a := a) (p := p)) (by omega)
  have hmx : fdF max 0 (fcT a p) a.el.length = maxF (fcT a p) := by unfold fdF; rw [← hfl, List.take_length]; exact fold_max_zero hne fun x hx => (fcT_in x hx).1
  refine pc_of_awpN Tryz.func23 rfl Tryz.ntmps23 (rs := [.cell 4 33, .tmp 5]) Tryz.results23 (by simp) fun w0 hmine hrnd hpn => ?_
  refine awp_seq ?_
  refine awp_region 2 mixed (by kernel_rfl) ?_
  refine rg_q (q_box rfl (by exact .inr ⟨_, rfl⟩)) ?_
  refine rg_q (q_box rfl (by exact .inr ⟨_, rfl⟩)) ?_
  refine rg_nil ?_
  refine aops_alloc zr33 rfl rfl rfl ?_
  refine aops_q rfl (q_assign (x := .d (.v _)) rfl) ?_
  refine aops_nil ?_
  change Awp _ _ _ _ _
  refine awp_seq ?_
  refine awp_region 1 mixed (by kernel_rfl) ?_
  refine rg_q (q_assign_nil) ?_
  refine rg_nil ?_
  refine aops_nil ?_
  change Awp _ _ _ _ _
  refine Awp.le (le_own (k := 6) (e := 3) (sz := 1) rfl rfl) ?_
  refine awp_seq ?_
  refine awp_region 1 mixed (by kernel_rfl) ?_
  refine rg_q (q_assign (x := .d (.v _)) rfl) ?_
  refine rg_nil ?_
  refine aops_nil ?_
  change Awp _ _ _ _ _
  refine awp_seq ?_
  refine awp_seq ?_
  refine awp_region 1 mixed (by kernel_rfl) ?_
  refine rg_q (q_assign (x := .d (.v _)) rfl) ?_
  refine rg_nil ?_
  refine aops_nil ?_
  change Awp _ _ _ _ _
  refine awp_block ?_
  refine awp_loopH [6, 7, 8, 9, 12, 13, 14, 15, 16, 17, 18, 19, 20, 21, 22, 23, 24, 25, 26, 27, 28, 29, 30, 31, 32, 33, 34] [6] (α := Nat) (fun k => [(8, T.i (k : Int)), (7, T.i (fdF max 0 (fcT a p) k)), (6, .rs 6)]) (fun k => [(6, .row 3 1 ((a.el.take k).map fun s => iC (rtI a.md s p)))]) (fun k => k ≤ a.el.length) (fun k => a.el.length - k) 0 (Nat.zero_le _) ?_ ?_
  · exact le_head (ms := [6]) (by repeat (exact Out.refl _)) ⟨(by rfl), (by rfl), (by rfl), trivial⟩ ⟨(by rfl), trivial⟩ rfl rfl rfl rfl
  ·
    intro k hk
    refine awp_seq ?_
    refine awp_seq ?_
    refine awp_region 5 mixed (by kernel_rfl) ?_
    refine rg_q (q_move (x := .d (.v _)) rfl) ?_
    refine rg_q (q_fieldAddr fld26_0 rfl) ?_
    refine rg_q (q_load sz22 rfl rfl) ?_
    refine rg_q (q_len isl22 rfl (by exact len_map _ _)) ?_
    refine rg_q (q_lss rfl rfl) ?_
    refine rg_nil ?_
    refine aops_nil ?_
    change Awp _ _ _ _ _
    refine awp_len (t := 14) rfl (fun hl14 => ?_)
    (try simp only [List.length_map] at hl14)
    refine awp_cond rfl (fun hc4 => ?_) (fun hc4 => ?_)
    ·
      (try simp only [decide_eq_true_eq, decide_eq_false_iff_not, Bool.and_eq_true, Bool.or_eq_true, Bool.and_eq_false_iff, Bool.or_eq_false_iff, Bool.not_eq_true', Bool.not_eq_false', Bool.not_true, Bool.not_false, bif_and, bif_or, Bool.not_not, ne_eq, Decidable.not_not, not_true_eq_false, not_false_eq_true, Int.not_le, Int.not_lt] at hc4)
      have hlt : k < a.el.length := by omega
      obtain ⟨s, hx⟩ : ∃ s, a.el[k]? = some s := ⟨_, List.getElem?_eq_getElem hlt⟩
      obtain ⟨_, _, hw0⟩ := lt_ok hla hp (List.mem_of_getElem? hx)
      obtain ⟨r1, r2⟩ := rt_in a.md s p
      have s1 := fdF_succ (f := max) (z := 0) (fcT_at (p := p) hx)
      have hln : (a.el.take k).length ≤ 16 := by rw [List.length_take]; omega
      have hsk : ((a.el.take (k + 1)).map fun s => iC (rtI a.md s p)) = ((a.el.take k).map fun s => iC (rtI a.md s p)) ++ [iC (rtI a.md s p)] := by
        rw [List.take_succ_eq_append_getElem hlt, List.map_append, (List.getElem?_eq_some_iff.1 hx).2]; rfl
      refine awp_skip ?_
      change Awp _ _ _ _ _
      refine awp_seq ?_
      refine awp_block ?_
      refine awp_seq ?_
      refine awp_region 10 mixed (by kernel_rfl) ?_
      refine rg_q (q_fieldAddr fld26_1 rfl) ?_
      refine rg_q (q_loadA (ds := [_, _, _, _]) sz24 rfl rfl rfl) ?_
      refine rg_q (q_fieldAddr fld26_0 rfl) ?_
      refine rg_q (q_load sz22 rfl rfl) ?_
      refine rg_q (q_move (x := .d (.v _)) rfl) ?_
      refine rg_q (q_indexAddr sl22 rfl rfl (by omega) (map_at (by omega) hx)) ?_
      refine rg_q (q_loadA (ds := [_, _]) sz28 rfl rfl rfl) ?_
      refine rg_q (q_loadA (ds := [_, _]) sz28 rfl rfl rfl) ?_
      refine rg_q (q_call en84 (.cons rfl (.cons rfl (.cons rfl .nil))) rfl (xrounded_p a.md s p hla.md hw0)) ?_
      refine rg_q (q_assign (x := .d (.v _)) rfl) ?_
      refine rg_nil ?_
      refine aops_nil ?_
      change Awp _ _ _ _ _
      refine awp_region 3 mixed (by kernel_rfl) ?_
      refine rg_q (q_move (x := .rs _) rfl) ?_
      refine rg_q (q_move (x := .d (.v _)) rfl) ?_
      refine rg_q (q_buildSlice sl31 zr3 rfl rfl (by decide) (.cons rfl (by exact .inl rfl) .nil) ⟨rfl, rfl, trivial⟩ rfl (by decide) rfl) ?_
      refine rg_nil ?_
      refine aops_append sl31 zr3 by3 rfl (by decide) rfl rfl rfl rfl (by (try simp only [List.length_map, List.length_append, List.length_cons, List.length_nil]); omega) (by (try simp only [List.length_map, List.length_append, List.length_cons, List.length_nil]); omega) rfl rfl ?_
      refine aops_q rfl (q_move (x := .d (.v _)) rfl) ?_
      refine aops_q rfl (q_move (x := .d (.v _)) rfl) ?_
      refine aops_q rfl (q_max rfl rfl) ?_
      refine aops_q rfl (q_assign (x := .rs _) rfl) ?_
      refine aops_q rfl (q_assign (x := .d (.v _)) rfl) ?_
      refine aops_nil ?_
      change Awp _ _ _ _ _
      refine awp_region 3 mixed (by kernel_rfl) ?_
      refine rg_q (q_move (x := .d (.v _)) rfl) ?_
      refine rg_q (q_add rfl rfl (In64.mk (by omega) (by omega))) ?_
      refine rg_q (q_assign (x := .d (.v _)) rfl) ?_
      refine rg_nil ?_
      refine aops_nil ?_
      refine ⟨k + 1, by omega, by omega, ?_⟩
      exact le_head (ms := [6]) (by repeat (first | exact Out.head rfl rfl | (refine Out.put ?_ rfl) | (refine Out.site ?_ rfl) | (refine Out.killS ?_ rfl))) ⟨(by rfl), (by ((show T.i _ = T.i _; rw [s1]))), (by rfl), trivial⟩ ⟨(by ((show Site.row 3 1 (_ ++ [_]) = Site.row 3 1 _; rw [hsk]; rfl))), trivial⟩ rfl rfl rfl rfl
    ·
      (try simp only [decide_eq_true_eq, decide_eq_false_iff_not, Bool.and_eq_true, Bool.or_eq_true, Bool.and_eq_false_iff, Bool.or_eq_false_iff, Bool.not_eq_true', Bool.not_eq_false', Bool.not_true, Bool.not_false, bif_and, bif_or, Bool.not_not, ne_eq, Decidable.not_not, not_true_eq_false, not_false_eq_true, Int.not_le, Int.not_lt] at hc4)
      have hkn : k = a.el.length := by omega
      subst hkn
      have hw6 : ((a.el.take a.el.length).map fun s => iC (rtI a.md s p)) = (fcT a p).map iC := by unfold fcT; rw [List.take_length, List.map_map]; rfl
      rw [hmx]
      refine awp_exit ?_
      change Awp _ _ _ _ _
      refine awp_seq ?_
      refine Awp.le (le_freezeR (es := (fcT a p).map iC) 6 6 (by show Site.row _ _ _ = _; rw [hw6]) rfl rfl rfl hmine) ?_
      refine awp_region 1 mixed (by kernel_rfl) ?_
      refine rg_q (q_assign_nil) ?_
      refine rg_nil ?_
      refine aops_nil ?_
      change Awp _ _ _ _ _
      refine Awp.le (le_own (k := 10) (e := 3) (sz := 1) rfl rfl) ?_
      refine awp_seq ?_
      refine awp_seq ?_
      refine awp_region 1 mixed (by kernel_rfl) ?_
      refine rg_q (q_assign (x := .d (.v _)) rfl) ?_
      refine rg_nil ?_
      refine aops_nil ?_
      change Awp _ _ _ _ _
      refine awp_block ?_
      refine awp_loopH [10, 11, 35, 36, 37, 38, 39, 40, 41, 42, 43, 44, 45, 46, 47, 48, 49, 50, 51, 52] [10] (α := Nat) (fun k => [(11, T.i (k : Int)), (10, .rs 10)]) (fun k => [(10, .row 3 1 ((bltL (fcI a p) k).map iC))]) (fun k => k ≤ a.el.length) (fun k => a.el.length - k) 0 (Nat.zero_le _) ?_ ?_
      · exact le_head (ms := [10]) (by repeat (exact Out.refl _)) ⟨(by rfl), (by rfl), trivial⟩ ⟨(by rfl), trivial⟩ rfl rfl rfl rfl
      ·
        intro k hk
        refine awp_seq ?_
        refine awp_seq ?_
        refine awp_region 4 mixed (by kernel_rfl) ?_
        refine rg_q (q_move (x := .d (.v _)) rfl) ?_
        refine rg_q (q_move (x := .d (.sl _ _)) rfl) ?_
        refine rg_q (q_len isl31 rfl (by exact len_map _ _)) ?_
        refine rg_q (q_lss rfl rfl) ?_
        refine rg_nil ?_
        refine aops_nil ?_
        change Awp _ _ _ _ _
        refine awp_len (t := 36) rfl (fun hl36 => ?_)
        (try simp only [List.length_map] at hl36)
        refine awp_cond rfl (fun hc10 => ?_) (fun hc10 => ?_)
        ·
          (try simp only [decide_eq_true_eq, decide_eq_false_iff_not, Bool.and_eq_true, Bool.or_eq_true, Bool.and_eq_false_iff, Bool.or_eq_false_iff, Bool.not_eq_true', Bool.not_eq_false', Bool.not_true, Bool.not_false, bif_and, bif_or, Bool.not_not, ne_eq, Decidable.not_not, not_true_eq_false, not_false_eq_true, Int.not_le, Int.not_lt] at hc10)
          try simp only [List.length_map] at hc10
          have hlt : k < a.el.length := by omega
          obtain ⟨s, hel⟩ : ∃ s, a.el[k]? = some s := ⟨_, List.getElem?_eq_getElem hlt⟩
          have hx := fcT_at (p := p) hel
          obtain ⟨r1, r2⟩ := rt_in a.md s p
          have hv := fcI_at (p := p) hel
          have hsk0 := bltL_succ (fcI a p) k
          rw [hv] at hsk0
          have hln : (bltL (fcI a p) k).length ≤ 16 := by rw [bltL_len]; omega
          refine awp_skip ?_
          change Awp _ _ _ _ _
          refine awp_seq ?_
          refine awp_block ?_
          refine awp_region 11 mixed (by kernel_rfl) ?_
          refine rg_q (q_move (x := .rs _) rfl) ?_
          refine rg_q (q_move (x := .d (.v _)) rfl) ?_
          refine rg_q (q_move (x := .d (.sl _ _)) rfl) ?_
          refine rg_q (q_move (x := .d (.v _)) rfl) ?_
          refine rg_q (q_indexAddr sl31 rfl rfl (by omega) (map_at (by omega) hx)) ?_
          refine rg_q (q_load sz3 rfl rfl) ?_
          refine rg_q (q_sub rfl rfl (In64.mk (by omega) (by omega))) ?_
          refine rg_q (q_fieldAddr fld26_2 rfl) ?_
          refine rg_q (q_load sz3 rfl rfl) ?_
          refine rg_q (q_call en85 (.cons rfl (.cons rfl .nil)) rfl (rround2_p _ _ (by omega) (by omega) (by omega) (by omega))) ?_
          refine rg_q (q_buildSlice sl31 zr3 rfl rfl (by decide) (.cons rfl (by exact .inl rfl) .nil) ⟨rfl, rfl, trivial⟩ rfl (by decide) rfl) ?_
          refine rg_nil ?_
          refine aops_append sl31 zr3 by3 rfl (by decide) rfl rfl rfl rfl (by (try simp only [List.length_map, List.length_append, List.length_cons, List.length_nil]); omega) (by (try simp only [List.length_map, List.length_append, List.length_cons, List.length_nil]); omega) rfl rfl ?_
          refine aops_q rfl (q_assign (x := .rs _) rfl) ?_
          refine aops_nil ?_
          change Awp _ _ _ _ _
          refine awp_region 3 mixed (by kernel_rfl) ?_
          refine rg_q (q_move (x := .d (.v _)) rfl) ?_
          refine rg_q (q_add rfl rfl (In64.mk (by omega) (by omega))) ?_
          refine rg_q (q_assign (x := .d (.v _)) rfl) ?_
          refine rg_nil ?_
          refine aops_nil ?_
          refine ⟨k + 1, by omega, by omega, ?_⟩
          exact le_head (ms := [10]) (by repeat (first | exact Out.head rfl rfl | (refine Out.put ?_ rfl) | (refine Out.site ?_ rfl) | (refine Out.killS ?_ rfl))) ⟨(by rfl), (by rfl), trivial⟩ ⟨(by (show Site.row 3 1 (_ ++ [_]) = Site.row 3 1 _; rw [hsk0, List.map_append]; rfl)), trivial⟩ rfl rfl rfl rfl
        ·
          (try simp only [decide_eq_true_eq, decide_eq_false_iff_not, Bool.and_eq_true, Bool.or_eq_true, Bool.and_eq_false_iff, Bool.or_eq_false_iff, Bool.not_eq_true', Bool.not_eq_false', Bool.not_true, Bool.not_false, bif_and, bif_or, Bool.not_not, ne_eq, Decidable.not_not, not_true_eq_false, not_false_eq_true, Int.not_le, Int.not_lt] at hc10)
          try simp only [List.length_map] at hc10
          have hkn : k = a.el.length := by omega
          subst hkn
          refine awp_exit ?_
          change Awp _ _ _ _ _
          refine awp_seq ?_
          refine Awp.le (le_freezeR (es := (bltL (fcI a p) a.el.length).map iC) 10 10 (by show Site.row _ _ _ = _; rfl) rfl rfl rfl hmine) ?_
          refine awp_region 6 mixed (by kernel_rfl) ?_
          refine rg_q (q_fieldAddr fld26_2 rfl) ?_
          refine rg_q (q_load sz3 rfl rfl) ?_
          refine rg_q (q_move (x := .d (.sl _ _)) rfl) ?_
          refine rg_q (q_call en86 (.cons rfl (.cons rfl .nil)) rfl ((by have h := lawOf_p a.ck (bltL (fcI a p) a.el.length); rw [lwo_blt] at h; exact h))) ?_
          refine rg_q (q_extract rfl rfl) ?_
          refine rg_q (q_extract rfl rfl) ?_
          refine rg_nil ?_
          refine aops_store sz33 rfl rfl (by exact .inr ⟨_, rfl⟩) rfl rfl (by decide) rfl ?_
          refine aops_q rfl (q_assign (x := .d (.v _)) rfl) ?_
          refine aops_nil ?_
          change Awp _ _ _ _ _
          refine awp_ret ?_
          refine ⟨_, (.cons (.cellA rfl rfl sz33 rfl) (.cons (.tmp (by exact .d _)) .nil)), ?_⟩
          rfl
end Go.Proofs.YtgeieocphgnipaaGreatDoor.Am.M
