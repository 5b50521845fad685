/- Contracts over the abstract machine: arrivals and spreads: the reference, LawArrives. Conditions: none. -/
import Derived.Test.YtgeieocphgnipaaGreatDoorG16
import Derived.Test.YtgeieocphgnipaaGreatDoorG10
set_option linter.unusedVariables false
set_option linter.unusedSimpArgs false
-- mini
namespace Go.Proofs.YtgeieocphgnipaaGreatDoor.Am.M
open Go

theorem sprR_is2 {a : Lar} {x : Dly} {p : Int × Int} (h1 : opnE a x = 0) (h2 : plcE a p = 0) : sprR a x p = sprL (arrL a x p) := by
  unfold sprR
  rw [if_neg]
  unfold arvE
  rw [if_neg (fun q => q h1)]
  exact fun q => q h2
theorem arrL_at {a : Lar} {x : Dly} {p : Int × Int} {k : Nat} {y : Int × Int} (h : (sndL x)[k]? = some y) : (arrL a x p)[k]? = some (arrI a x p y) := by unfold arrL; rw [List.getElem?_map, h]; rfl
theorem arrL_len (a : Lar) (x : Dly) (p : Int × Int) : (arrL a x p).length = (sndL x).length := List.length_map _
set_option maxRecDepth 100000 in
theorem rarrivals_p (a : Lar) (x : Dly) (p : Int × Int) (ho : opnE a x = 0) (hp : plcE a p = 0) : PC Tryz.prog 31 [.agg (larC a), .agg (dlyC x), .agg (shC p)] (.sl 2 ((arrL a x p).map shC)) := by
  obtain ⟨h1, h2, h3⟩ := lop_ok ho
  have hla := (lar_ok h1).1
  have hok := (ckLaw_ok h2).1
  have hn2 := hok.n2
  have hc1 := hok.c1
  have hc22 := hok.c2
  have hwl := whoL_len x
  have hal := arrL_len a x p
  have hsl : (sndL x).length ≤ 16 := Nat.le_trans sndTo_len hn2
  refine pc_of_awpN Tryz.func31 rfl Tryz.ntmps31 (rs := [.tmp 6]) Tryz.results31 (by simp) fun w0 hmine hrnd hpn => ?_
  refine awp_seq ?_
  refine awp_region 4 mixed (by kernel_rfl) ?_
  refine rg_q (q_box rfl (by exact .inr ⟨_, rfl⟩)) ?_
  refine rg_q (q_box rfl (by exact .inr ⟨_, rfl⟩)) ?_
  refine rg_q (q_box rfl (by exact .inr ⟨_, rfl⟩)) ?_
  refine rg_q (q_assign (x := .d (.sl _ _)) rfl) ?_
  refine rg_nil ?_
  refine aops_nil ?_
  change Awp _ _ _ _ _
  refine awp_seq ?_
  refine awp_region 1 mixed (by kernel_rfl) ?_
  refine rg_q (q_assign_nil) ?_
  refine rg_nil ?_
  refine aops_nil ?_
  change Awp _ _ _ _ _
  refine Awp.le (le_own (k := 7) (e := 49) (sz := 2) rfl rfl) ?_
  refine awp_seq ?_
  refine awp_region 3 mixed (by kernel_rfl) ?_
  refine rg_q (q_loadA (ds := [_, _]) sz33 rfl rfl rfl) ?_
  refine rg_q (q_call en74 (.cons rfl .nil) rfl (rsending_p _ (by omega))) ?_
  refine rg_q (q_assign (x := .d (.sl _ _)) rfl) ?_
  refine rg_nil ?_
  refine aops_nil ?_
  change Awp _ _ _ _ _
  refine awp_seq ?_
  refine awp_seq ?_
  refine awp_region 1 mixed (by kernel_rfl) ?_
  refine rg_q (q_assign (x := .d (.v _)) rfl) ?_
  refine rg_nil ?_
  refine aops_nil ?_
  change Awp _ _ _ _ _
  refine awp_block ?_
  refine awp_loopH [7, 9, 10, 11, 14, 15, 16, 17, 18, 19, 20, 21, 22, 23, 24, 25, 26, 27, 28, 29, 30, 31, 32, 33, 34, 35, 36, 37, 38, 39, 40, 41, 42, 43, 44, 45, 46, 47, 48, 49, 50, 51, 52, 53, 54] [7] (α := Nat) (fun k => [(9, T.i (k : Int)), (7, .rs 7)]) (fun k => [(7, .row 49 2 (((arrL a x p).take k).map shC))]) (fun k => k ≤ (sndL x).length) (fun k => (sndL x).length - k) 0 (Nat.zero_le _) ?_ ?_
  · exact le_head (ms := [7]) (by repeat (exact Out.refl _)) ⟨(by rfl), (by rfl), trivial⟩ ⟨(by rfl), trivial⟩ rfl rfl rfl rfl
  ·
    intro k hk
    refine awp_seq ?_
    refine awp_seq ?_
    refine awp_region 4 mixed (by kernel_rfl) ?_
    refine rg_q (q_move (x := .d (.v _)) rfl) ?_
    refine rg_q (q_move (x := .d (.sl _ _)) rfl) ?_
    refine rg_q (q_len isl31 rfl (by exact len_map _ _)) ?_
    refine rg_q (q_lss rfl rfl) ?_
    refine rg_nil ?_
    refine aops_nil ?_
    change Awp _ _ _ _ _
    refine awp_len (t := 15) rfl (fun hl15 => ?_)
    (try simp only [List.length_map] at hl15)
    refine awp_cond rfl (fun hc4 => ?_) (fun hc4 => ?_)
    ·
      (try simp only [decide_eq_true_eq, decide_eq_false_iff_not, Bool.and_eq_true, Bool.or_eq_true, Bool.and_eq_false_iff, Bool.or_eq_false_iff, Bool.not_eq_true', Bool.not_eq_false', Bool.not_true, Bool.not_false, bif_and, bif_or, Bool.not_not, ne_eq, Decidable.not_not, not_true_eq_false, not_false_eq_true, Int.not_le, Int.not_lt] at hc4)
      have hlt : k < (sndL x).length := by (try simp only [List.length_map] at hc4); omega
      obtain ⟨y, hy⟩ : ∃ y, (sndL x)[k]? = some y := ⟨_, List.getElem?_eq_getElem hlt⟩
      obtain ⟨j0, j1, hxy, j3⟩ := snd_at hy
      obtain ⟨s, hs⟩ : ∃ s, a.el[y.1.toNat]? = some s := ⟨_, List.getElem?_eq_getElem (by omega)⟩
      have hw := whoL_at hy
      have hnn := hok.tk y.2 (List.mem_of_getElem? hxy)
      obtain ⟨_, _, hw0⟩ := lt_ok hla hp (List.mem_of_getElem? hs)
      obtain ⟨l1, l2, l3, l4⟩ := lt_in a.md s p
      have m := mulb (a := y.2) (b := x.ck) (A := 1000000) (B := 1000000) (by omega) (by omega) (by omega) (by omega)
      have m0 := Int.mul_nonneg j3 (show 0 ≤ x.ck by omega)
      have he : elA a y.1 = s := by unfold elA; rw [List.getD_eq_getElem?_getD, hs]; rfl
      have hat := arrL_at (a := a) (p := p) hy
      have hln : ((arrL a x p).take k).length ≤ 16 := by rw [List.length_take]; omega
      have hsk : (((arrL a x p).take (k + 1)).map shC) = (((arrL a x p).take k).map shC) ++ [[.v (.int .i64 ((ltI a.md s p).1.1 + y.2 * x.ck)), .v (.int .i64 ((ltI a.md s p).1.2 + y.2 * x.ck))]] := by
        rw [List.take_succ_eq_append_getElem (by omega), List.map_append, (List.getElem?_eq_some_iff.1 hat).2]
        simp only [List.map_cons, List.map_nil, arrI, he, shC]
      refine awp_skip ?_
      change Awp _ _ _ _ _
      refine awp_seq ?_
      refine awp_block ?_
      refine awp_seq ?_
      refine awp_regionM 14 [none, none, none, none, none, none, none, none, none, none, none, none, some 10, some 10] mixed (by kernel_rfl) ?_
      refine rgm_q rfl (q_fieldAddr fld26_1 rfl) ?_
      refine rgm_q rfl (q_loadA (ds := [_, _, _, _]) sz24 rfl rfl rfl) ?_
      refine rgm_q rfl (q_fieldAddr fld26_0 rfl) ?_
      refine rgm_q rfl (q_load sz22 rfl rfl) ?_
      refine rgm_q rfl (q_move (x := .d (.sl _ _)) rfl) ?_
      refine rgm_q rfl (q_move (x := .d (.v _)) rfl) ?_
      refine rgm_q rfl (q_indexAddr sl31 rfl rfl (by omega) (map_at (k := k) (by omega) hw)) ?_
      refine rgm_q rfl (q_load sz3 rfl rfl) ?_
      refine rgm_q rfl (q_indexAddr sl22 rfl rfl (by omega) (map_at (k := y.1.toNat) (by omega) hs)) ?_
      refine rgm_q rfl (q_loadA (ds := [_, _]) sz28 rfl rfl rfl) ?_
      refine rgm_q rfl (q_loadA (ds := [_, _]) sz28 rfl rfl rfl) ?_
      refine rgm_q rfl (q_call en90 (.cons rfl (.cons rfl (.cons rfl .nil))) rfl (xleastTime_p a.md s p hla.md hw0)) ?_
      refine rgm_m (k := 10) rfl rfl (by rfl) (m_alloc zr49 rfl rfl) ?_
      refine rgm_m (k := 10) rfl rfl (by rfl) (m_store sz49 rfl rfl (by exact .inr ⟨_, rfl⟩) rfl rfl (by decide) rfl) ?_
      refine rgm_nil ?_
      refine aops_nil ?_
      change Awp _ _ _ _ _
      refine awp_seq ?_
      refine awp_region 12 mixed (by kernel_rfl) ?_
      refine rg_q (q_fieldAddr fld33_1 rfl) ?_
      refine rg_q (q_load sz31 rfl rfl) ?_
      refine rg_q (q_move (x := .d (.sl _ _)) rfl) ?_
      refine rg_q (q_move (x := .d (.v _)) rfl) ?_
      refine rg_q (q_indexAddr sl31 rfl rfl (by omega) (map_at (k := k) (by omega) hw)) ?_
      refine rg_q (q_load sz3 rfl rfl) ?_
      refine rg_q (q_indexAddr sl31 rfl rfl (by omega) (map_at (k := y.1.toNat) (by omega) hxy)) ?_
      refine rg_q (q_load sz3 rfl rfl) ?_
      refine rg_q (q_fieldAddr fld33_0 rfl) ?_
      refine rg_q (q_load sz3 rfl rfl) ?_
      refine rg_q (q_mul rfl rfl (In64.mk (by omega) (by omega))) ?_
      refine rg_q (q_assign (x := .d (.v _)) rfl) ?_
      refine rg_nil ?_
      refine aops_nil ?_
      change Awp _ _ _ _ _
      refine awp_region 11 mixed (by kernel_rfl) ?_
      refine rg_q (q_move (x := .rs _) rfl) ?_
      refine rg_q (q_fieldAddr_ref fld49_0 rfl) ?_
      refine rg_q (q_load_ref sz3 rfl rfl rfl) ?_
      refine rg_q (q_move (x := .d (.v _)) rfl) ?_
      refine rg_q (q_add rfl rfl (In64.mk (by omega) (by omega))) ?_
      refine rg_q (q_fieldAddr_ref fld49_1 rfl) ?_
      refine rg_q (q_load_ref sz3 rfl rfl rfl) ?_
      refine rg_q (q_move (x := .d (.v _)) rfl) ?_
      refine rg_q (q_add rfl rfl (In64.mk (by omega) (by omega))) ?_
      refine rg_q (q_build (cs := [_, _]) pl49 zr49 rfl (.cons rfl (by exact .inl rfl) (.cons rfl (by exact .inl rfl) .nil)) ⟨⟨rfl, by decide⟩, ⟨rfl, by decide⟩, trivial⟩ rfl) ?_
      refine rg_q (q_buildSlice sl44 zr49 rfl rfl (by decide) (.cons rfl (by exact .inr ⟨_, rfl⟩) .nil) ⟨rfl, rfl, trivial⟩ rfl (by decide) rfl) ?_
      refine rg_nil ?_
      refine aops_append sl44 zr49 by49 rfl (by decide) rfl rfl rfl rfl (by (try simp only [List.length_map, List.length_append, List.length_cons, List.length_nil]); omega) (by (try simp only [List.length_map, List.length_append, List.length_cons, List.length_nil]); omega) rfl rfl ?_
      refine aops_q rfl (q_assign (x := .rs _) rfl) ?_
      refine aops_nil ?_
      change Awp _ _ _ _ _
      refine awp_region 3 mixed (by kernel_rfl) ?_
      refine rg_q (q_move (x := .d (.v _)) rfl) ?_
      refine rg_q (q_add rfl rfl (In64.mk (by omega) (by omega))) ?_
      refine rg_q (q_assign (x := .d (.v _)) rfl) ?_
      refine rg_nil ?_
      refine aops_nil ?_
      refine ⟨k + 1, by omega, by omega, ?_⟩
      exact le_head (ms := [7]) (by repeat (first | exact Out.head rfl rfl | (refine Out.put ?_ rfl) | (refine Out.site ?_ rfl) | (refine Out.killS ?_ rfl))) ⟨(by rfl), (by rfl), trivial⟩ ⟨(by (show Site.row 49 2 (_ ++ [_]) = Site.row 49 2 _; rw [hsk]; rfl)), trivial⟩ rfl rfl rfl rfl
    ·
      (try simp only [decide_eq_true_eq, decide_eq_false_iff_not, Bool.and_eq_true, Bool.or_eq_true, Bool.and_eq_false_iff, Bool.or_eq_false_iff, Bool.not_eq_true', Bool.not_eq_false', Bool.not_true, Bool.not_false, bif_and, bif_or, Bool.not_not, ne_eq, Decidable.not_not, not_true_eq_false, not_false_eq_true, Int.not_le, Int.not_lt] at hc4)
      have hkn : k = (sndL x).length := by (try simp only [List.length_map] at hc4); omega
      have hfin : (arrL a x p).take k = arrL a x p := by rw [hkn, ← hal, List.take_length]
      rw [hfin]
      refine awp_exit ?_
      change Awp _ _ _ _ _
      refine awp_seq ?_
      refine awp_region 2 mixed (by kernel_rfl) ?_
      refine rg_q (q_move (x := .rs _) rfl) ?_
      refine rg_q (q_assign (x := .rs _) rfl) ?_
      refine rg_nil ?_
      refine aops_nil ?_
      change Awp _ _ _ _ _
      refine awp_ret ?_
      refine ⟨_, (.cons (.tmp (by exact .rs rfl)) .nil), ?_⟩
      rfl
set_option maxRecDepth 100000 in
theorem rspread_p (a : Lar) (x : Dly) (p : Int × Int) (ho : opnE a x = 0) (hp : plcE a p = 0) : PC Tryz.prog 29 [.agg (larC a), .agg (dlyC x), .agg (shC p)] (.tup [.agg [.v (.int .i64 ((sprL (arrL a x p)).1.1)), .v (.int .i64 ((sprL (arrL a x p)).1.2))], .v (.int .i64 ((sprL (arrL a x p)).2))]) := by
  obtain ⟨h1, h2, h3⟩ := lop_ok ho
  have hok := (ckLaw_ok h2).1
  have hin := arr_in (a := a) (p := p) hok
  generalize hL : arrL a x p = L at *
  have hl1 : (los L).length = L.length := List.length_map _
  have hl2 : (his L).length = L.length := List.length_map _
  refine pc_of_awpN Tryz.func29 rfl Tryz.ntmps29 (rs := [.cell 6 49, .tmp 7]) Tryz.results29 (by simp) fun w0 hmine hrnd hpn => ?_
  refine awp_seq ?_
  refine awp_region 3 mixed (by kernel_rfl) ?_
  refine rg_q (q_box rfl (by exact .inr ⟨_, rfl⟩)) ?_
  refine rg_q (q_box rfl (by exact .inr ⟨_, rfl⟩)) ?_
  refine rg_q (q_box rfl (by exact .inr ⟨_, rfl⟩)) ?_
  refine rg_nil ?_
  refine aops_alloc zr49 rfl rfl rfl ?_
  refine aops_q rfl (q_assign (x := .d (.v _)) rfl) ?_
  refine aops_nil ?_
  change Awp _ _ _ _ _
  refine awp_seq ?_
  refine awp_region 5 mixed (by kernel_rfl) ?_
  refine rg_q (q_loadA (ds := [_, _, _, _, _, _]) sz26 rfl rfl rfl) ?_
  refine rg_q (q_loadA (ds := [_, _]) sz33 rfl rfl rfl) ?_
  refine rg_q (q_loadA (ds := [_, _]) sz28 rfl rfl rfl) ?_
  refine rg_q (q_call en31 (.cons rfl (.cons rfl (.cons rfl .nil))) rfl ((by have := rarrivals_p a x p ho hp; rw [hL] at this; exact this))) ?_
  refine rg_q (q_assign (x := .d (.sl _ _)) rfl) ?_
  refine rg_nil ?_
  refine aops_nil ?_
  change Awp _ _ _ _ _
  refine awp_seq ?_
  refine awp_seq ?_
  refine awp_region 3 mixed (by kernel_rfl) ?_
  refine rg_q (q_move (x := .d (.sl _ _)) rfl) ?_
  refine rg_q (q_len isl44 rfl (by exact len_map _ _)) ?_
  refine rg_q (q_eql rfl rfl) ?_
  refine rg_nil ?_
  refine aops_nil ?_
  change Awp _ _ _ _ _
  refine awp_len (t := 16) rfl (fun hl16 => ?_)
  (try simp only [List.length_map] at hl16)
  refine awp_cond rfl (fun hc2 => ?_) (fun hc2 => ?_)
  ·
    (try simp only [decide_eq_true_eq, decide_eq_false_iff_not, Bool.and_eq_true, Bool.or_eq_true, Bool.and_eq_false_iff, Bool.or_eq_false_iff, Bool.not_eq_true', Bool.not_eq_false', Bool.not_true, Bool.not_false, bif_and, bif_or, Bool.not_not, ne_eq, Decidable.not_not, not_true_eq_false, not_false_eq_true, Int.not_le, Int.not_lt] at hc2)
    try simp only [List.length_map] at hc2
    have hz : sprL L = ((0, 0), 12) := by unfold sprL; rw [if_pos (by omega)]
    refine awp_seq ?_
    refine awp_region 1 mixed (by kernel_rfl) ?_
    refine rg_q (q_build (cs := [_, _]) pl49 zr49 rfl .nil trivial rfl) ?_
    refine rg_nil ?_
    refine aops_store sz49 rfl rfl (by exact .inr ⟨_, rfl⟩) rfl rfl (by decide) rfl ?_
    refine aops_q rfl (q_assign (x := .d (.v _)) rfl) ?_
    refine aops_nil ?_
    change Awp _ _ _ _ _
    refine awp_ret ?_
    refine ⟨_, (.cons (.cellA rfl rfl sz49 rfl) (.cons (.tmp (by exact .d _)) .nil)), ?_⟩
    rw [hz]; rfl
  ·
    (try simp only [decide_eq_true_eq, decide_eq_false_iff_not, Bool.and_eq_true, Bool.or_eq_true, Bool.and_eq_false_iff, Bool.or_eq_false_iff, Bool.not_eq_true', Bool.not_eq_false', Bool.not_true, Bool.not_false, bif_and, bif_or, Bool.not_not, ne_eq, Decidable.not_not, not_true_eq_false, not_false_eq_true, Int.not_le, Int.not_lt] at hc2)
    try simp only [List.length_map] at hc2
    obtain ⟨z, hx0⟩ : ∃ z, L[0]? = some z := ⟨_, List.getElem?_eq_getElem (by omega)⟩
    have hz : sprL L = (sprI L, 0) := by unfold sprL; rw [if_neg (by omega)]
    have hn1 : los L ≠ [] := fun e => by have := congrArg List.length e; simp only [List.length_nil] at this; omega
    have hn2 : his L ≠ [] := fun e => by have := congrArg List.length e; simp only [List.length_nil] at this; omega
    have q1 := mm_in hn1 (b := 2000000000000) fun v hv => by obtain ⟨r, hr, rfl⟩ := List.mem_map.1 hv; exact (hin r hr).1
    have q2 := mm_in hn2 (b := 2000000000000) fun v hv => by obtain ⟨r, hr, rfl⟩ := List.mem_map.1 hv; exact (hin r hr).2
    have f1 := fdF_min (los_at hx0)
    have f2 := fdF_max (his_at hx0)
    have f3 := fdF_max (los_at hx0)
    have f4 := fdF_min (his_at hx0)
    rw [hl1] at f1 f3
    rw [hl2] at f2 f4
    refine awp_skip ?_
    change Awp _ _ _ _ _
    refine awp_seq ?_
    refine awp_regionM 10 [none, none, none, none, none, none, some 9, some 10, some 9, some 10] mixed (by kernel_rfl) ?_
    refine rgm_q rfl (q_move (x := .d (.sl _ _)) rfl) ?_
    refine rgm_q rfl (q_indexAddr sl44 rfl rfl (by omega) (map_at (k := 0) (by omega) hx0)) ?_
    refine rgm_q rfl (q_loadA (ds := [_, _]) sz49 rfl rfl rfl) ?_
    refine rgm_q rfl (q_move (x := .d (.sl _ _)) rfl) ?_
    refine rgm_q rfl (q_indexAddr sl44 rfl rfl (by omega) (map_at (k := 0) (by omega) hx0)) ?_
    refine rgm_q rfl (q_loadA (ds := [_, _]) sz49 rfl rfl rfl) ?_
    refine rgm_m (k := 9) rfl rfl (by rfl) (m_alloc zr49 rfl rfl) ?_
    refine rgm_m (k := 10) rfl rfl (by rfl) (m_alloc zr49 rfl rfl) ?_
    refine rgm_m (k := 9) rfl rfl (by rfl) (m_store sz49 rfl rfl (by exact .inr ⟨_, rfl⟩) rfl rfl (by decide) rfl) ?_
    refine rgm_m (k := 10) rfl rfl (by rfl) (m_store sz49 rfl rfl (by exact .inr ⟨_, rfl⟩) rfl rfl (by decide) rfl) ?_
    refine rgm_nil ?_
    refine aops_nil ?_
    change Awp _ _ _ _ _
    refine awp_seq ?_
    refine awp_seq ?_
    refine awp_region 1 mixed (by kernel_rfl) ?_
    refine rg_q (q_assign (x := .d (.v _)) rfl) ?_
    refine rg_nil ?_
    refine aops_nil ?_
    change Awp _ _ _ _ _
    refine awp_block ?_
    refine awp_loopH [11, 26, 27, 28, 29, 30, 31, 32, 33, 34, 35, 36, 37, 38, 39, 40, 41, 42, 43, 44, 45, 46, 47, 48, 49, 50, 51, 52, 53, 54, 55, 56, 57, 58, 59, 60, 61, 62, 63, 64, 65] [9, 10] (α := Nat) (fun k => [(11, T.i (k : Int))]) (fun k => [(9, .box [.v (.int .i64 (fdF min z.1 (los L) k)), .v (.int .i64 (fdF min z.2 (his L) k))]), (10, .box [.v (.int .i64 (fdF max z.1 (los L) k)), .v (.int .i64 (fdF max z.2 (his L) k))])]) (fun k => k ≤ L.length) (fun k => L.length - k) 0 (Nat.zero_le _) ?_ ?_
    · exact le_head (ms := [9, 10]) (by repeat (exact Out.refl _)) ⟨(by rfl), trivial⟩ ⟨(by rfl), (by rfl), trivial⟩ rfl rfl rfl rfl
    ·
      intro k hk
      refine awp_seq ?_
      refine awp_seq ?_
      refine awp_region 4 mixed (by kernel_rfl) ?_
      refine rg_q (q_move (x := .d (.v _)) rfl) ?_
      refine rg_q (q_move (x := .d (.sl _ _)) rfl) ?_
      refine rg_q (q_len isl44 rfl (by exact len_map _ _)) ?_
      refine rg_q (q_lss rfl rfl) ?_
      refine rg_nil ?_
      refine aops_nil ?_
      change Awp _ _ _ _ _
      refine awp_len (t := 27) rfl (fun hl27 => ?_)
      (try simp only [List.length_map] at hl27)
      refine awp_cond rfl (fun hc6 => ?_) (fun hc6 => ?_)
      ·
        (try simp only [decide_eq_true_eq, decide_eq_false_iff_not, Bool.and_eq_true, Bool.or_eq_true, Bool.and_eq_false_iff, Bool.or_eq_false_iff, Bool.not_eq_true', Bool.not_eq_false', Bool.not_true, Bool.not_false, bif_and, bif_or, Bool.not_not, ne_eq, Decidable.not_not, not_true_eq_false, not_false_eq_true, Int.not_le, Int.not_lt] at hc6)
        try simp only [List.length_map] at hc6
        have hlt : k < L.length := by omega
        obtain ⟨r, hx⟩ : ∃ r, L[k]? = some r := ⟨_, List.getElem?_eq_getElem hlt⟩
        have s1 := fdF_succ (f := min) (z := z.1) (los_at hx)
        have s2 := fdF_succ (f := max) (z := z.2) (his_at hx)
        have s3 := fdF_succ (f := max) (z := z.1) (los_at hx)
        have s4 := fdF_succ (f := min) (z := z.2) (his_at hx)
        refine awp_skip ?_
        change Awp _ _ _ _ _
        refine awp_seq ?_
        refine awp_block ?_
        refine awp_seq ?_
        refine awp_region 17 mixed (by kernel_rfl) ?_
        refine rg_q (q_fieldAddr_ref fld49_0 rfl) ?_
        refine rg_q (q_load_ref sz3 rfl rfl rfl) ?_
        refine rg_q (q_move (x := .d (.sl _ _)) rfl) ?_
        refine rg_q (q_move (x := .d (.v _)) rfl) ?_
        refine rg_q (q_indexAddr sl44 rfl rfl (by omega) (map_at (by omega) hx)) ?_
        refine rg_q (q_fieldAddr fld49_0 rfl) ?_
        refine rg_q (q_load sz3 rfl rfl) ?_
        refine rg_q (q_min rfl rfl) ?_
        refine rg_q (q_fieldAddr_ref fld49_1 rfl) ?_
        refine rg_q (q_load_ref sz3 rfl rfl rfl) ?_
        refine rg_q (q_move (x := .d (.sl _ _)) rfl) ?_
        refine rg_q (q_move (x := .d (.v _)) rfl) ?_
        refine rg_q (q_indexAddr sl44 rfl rfl (by omega) (map_at (by omega) hx)) ?_
        refine rg_q (q_fieldAddr fld49_1 rfl) ?_
        refine rg_q (q_load sz3 rfl rfl) ?_
        refine rg_q (q_min rfl rfl) ?_
        refine rg_q (q_build (cs := [_, _]) pl49 zr49 rfl (.cons rfl (by exact .inl rfl) (.cons rfl (by exact .inl rfl) .nil)) ⟨⟨rfl, by decide⟩, ⟨rfl, by decide⟩, trivial⟩ rfl) ?_
        refine rg_nil ?_
        refine aops_store sz49 rfl rfl (by exact .inr ⟨_, rfl⟩) rfl rfl (by simp; done) rfl ?_
        refine aops_nil ?_
        change Awp _ _ _ _ _
        refine awp_region 17 mixed (by kernel_rfl) ?_
        refine rg_q (q_fieldAddr_ref fld49_0 rfl) ?_
        refine rg_q (q_load_ref sz3 rfl rfl rfl) ?_
        refine rg_q (q_move (x := .d (.sl _ _)) rfl) ?_
        refine rg_q (q_move (x := .d (.v _)) rfl) ?_
        refine rg_q (q_indexAddr sl44 rfl rfl (by omega) (map_at (by omega) hx)) ?_
        refine rg_q (q_fieldAddr fld49_0 rfl) ?_
        refine rg_q (q_load sz3 rfl rfl) ?_
        refine rg_q (q_max rfl rfl) ?_
        refine rg_q (q_fieldAddr_ref fld49_1 rfl) ?_
        refine rg_q (q_load_ref sz3 rfl rfl rfl) ?_
        refine rg_q (q_move (x := .d (.sl _ _)) rfl) ?_
        refine rg_q (q_move (x := .d (.v _)) rfl) ?_
        refine rg_q (q_indexAddr sl44 rfl rfl (by omega) (map_at (by omega) hx)) ?_
        refine rg_q (q_fieldAddr fld49_1 rfl) ?_
        refine rg_q (q_load sz3 rfl rfl) ?_
        refine rg_q (q_max rfl rfl) ?_
        refine rg_q (q_build (cs := [_, _]) pl49 zr49 rfl (.cons rfl (by exact .inl rfl) (.cons rfl (by exact .inl rfl) .nil)) ⟨⟨rfl, by decide⟩, ⟨rfl, by decide⟩, trivial⟩ rfl) ?_
        refine rg_nil ?_
        refine aops_store sz49 rfl rfl (by exact .inr ⟨_, rfl⟩) rfl rfl (by simp; done) rfl ?_
        refine aops_nil ?_
        change Awp _ _ _ _ _
        refine awp_region 3 mixed (by kernel_rfl) ?_
        refine rg_q (q_move (x := .d (.v _)) rfl) ?_
        refine rg_q (q_add rfl rfl (In64.mk (by omega) (by omega))) ?_
        refine rg_q (q_assign (x := .d (.v _)) rfl) ?_
        refine rg_nil ?_
        refine aops_nil ?_
        refine ⟨k + 1, by omega, by omega, ?_⟩
        exact le_head (ms := [9, 10]) (by repeat (first | exact Out.head rfl rfl | (refine Out.put ?_ rfl) | (refine Out.site ?_ rfl))) ⟨(by rfl), trivial⟩ ⟨(by (show Site.box [_, _] = Site.box [_, _]; rw [s1, s4])), (by (show Site.box [_, _] = Site.box [_, _]; rw [s3, s2])), trivial⟩ rfl rfl rfl rfl
      ·
        (try simp only [decide_eq_true_eq, decide_eq_false_iff_not, Bool.and_eq_true, Bool.or_eq_true, Bool.and_eq_false_iff, Bool.or_eq_false_iff, Bool.not_eq_true', Bool.not_eq_false', Bool.not_true, Bool.not_false, bif_and, bif_or, Bool.not_not, ne_eq, Decidable.not_not, not_true_eq_false, not_false_eq_true, Int.not_le, Int.not_lt] at hc6)
        try simp only [List.length_map] at hc6
        have hkl : k = L.length := by omega
        subst hkl
        rw [f1, f2, f3, f4]
        refine awp_exit ?_
        change Awp _ _ _ _ _
        refine awp_seq ?_
        refine awp_region 12 mixed (by kernel_rfl) ?_
        refine rg_q (q_fieldAddr_ref fld49_0 rfl) ?_
        refine rg_q (q_load_ref sz3 rfl rfl rfl) ?_
        refine rg_q (q_fieldAddr_ref fld49_1 rfl) ?_
        refine rg_q (q_load_ref sz3 rfl rfl rfl) ?_
        refine rg_q (q_sub rfl rfl (In64.mk (by omega) (by omega))) ?_
        refine rg_q (q_max rfl rfl) ?_
        refine rg_q (q_fieldAddr_ref fld49_1 rfl) ?_
        refine rg_q (q_load_ref sz3 rfl rfl rfl) ?_
        refine rg_q (q_fieldAddr_ref fld49_0 rfl) ?_
        refine rg_q (q_load_ref sz3 rfl rfl rfl) ?_
        refine rg_q (q_sub rfl rfl (In64.mk (by omega) (by omega))) ?_
        refine rg_q (q_build (cs := [_, _]) pl49 zr49 rfl (.cons rfl (by exact .inl rfl) (.cons rfl (by exact .inl rfl) .nil)) ⟨⟨rfl, by decide⟩, ⟨rfl, by decide⟩, trivial⟩ rfl) ?_
        refine rg_nil ?_
        refine aops_store sz49 rfl rfl (by exact .inr ⟨_, rfl⟩) rfl rfl (by decide) rfl ?_
        refine aops_q rfl (q_assign (x := .d (.v _)) rfl) ?_
        refine aops_nil ?_
        change Awp _ _ _ _ _
        refine awp_ret ?_
        refine ⟨_, (.cons (.cellA rfl rfl sz49 rfl) (.cons (.tmp (by exact .d _)) .nil)), ?_⟩
        rw [hz]; rfl
set_option maxRecDepth 100000 in
theorem ranges_p (a b : List (Int × Int)) : PC Tryz.prog 30 [.sl 2 (a.map shC), .sl 2 (b.map shC)] (.v (.bool (decide (a = b)))) := by
  refine pc_of_awp Tryz.func30 rfl Tryz.ntmps30 (rs := [.tmp 4]) Tryz.results30 (by simp) fun w0 => ?_
  refine awp_seq ?_
  refine awp_region 1 mixed (by kernel_rfl) ?_
  refine rg_q (q_assign (x := .d (.v _)) rfl) ?_
  refine rg_nil ?_
  refine aops_nil ?_
  change Awp _ _ _ _ _
  refine awp_seq ?_
  refine awp_seq ?_
  refine awp_region 5 mixed (by kernel_rfl) ?_
  refine rg_q (q_move (x := .d (.sl _ _)) rfl) ?_
  refine rg_q (q_len isl44 rfl (by exact len_map _ _)) ?_
  refine rg_q (q_move (x := .d (.sl _ _)) rfl) ?_
  refine rg_q (q_len isl44 rfl (by exact len_map _ _)) ?_
  refine rg_q (q_neq rfl rfl) ?_
  refine rg_nil ?_
  refine aops_nil ?_
  change Awp _ _ _ _ _
  refine awp_len (t := 6) rfl (fun hl6 => ?_)
  (try simp only [List.length_map] at hl6)
  refine awp_len (t := 8) rfl (fun hl8 => ?_)
  (try simp only [List.length_map] at hl8)
  refine awp_cond rfl (fun hc1 => ?_) (fun hc1 => ?_)
  ·
    (try simp only [decide_eq_true_eq, decide_eq_false_iff_not, Bool.and_eq_true, Bool.or_eq_true, Bool.and_eq_false_iff, Bool.or_eq_false_iff, Bool.not_eq_true', Bool.not_eq_false', Bool.not_true, Bool.not_false, bif_and, bif_or, Bool.not_not, ne_eq, Decidable.not_not, not_true_eq_false, not_false_eq_true, Int.not_le, Int.not_lt] at hc1)
    have hz : decide (a = b) = false := decide_eq_false (fun e => by subst e; omega)
    refine awp_seq ?_
    refine awp_region 1 mixed (by kernel_rfl) ?_
    refine rg_q (q_assign (x := .d (.v _)) rfl) ?_
    refine rg_nil ?_
    refine aops_nil ?_
    change Awp _ _ _ _ _
    refine awp_ret ?_
    refine ⟨_, (.cons (.tmp (by exact .d _)) .nil), ?_⟩
    rw [hz]; rfl
  ·
    (try simp only [decide_eq_true_eq, decide_eq_false_iff_not, Bool.and_eq_true, Bool.or_eq_true, Bool.and_eq_false_iff, Bool.or_eq_false_iff, Bool.not_eq_true', Bool.not_eq_false', Bool.not_true, Bool.not_false, bif_and, bif_or, Bool.not_not, ne_eq, Decidable.not_not, not_true_eq_false, not_false_eq_true, Int.not_le, Int.not_lt] at hc1)
    have hab : a.length = b.length := by omega
    refine awp_skip ?_
    change Awp _ _ _ _ _
    refine awp_seq ?_
    refine awp_seq ?_
    refine awp_region 1 mixed (by kernel_rfl) ?_
    refine rg_q (q_assign (x := .d (.v _)) rfl) ?_
    refine rg_nil ?_
    refine aops_nil ?_
    change Awp _ _ _ _ _
    refine awp_block ?_
    refine awp_loopH [4, 5, 11, 12, 13, 14, 15, 16, 17, 18, 19, 20, 21, 22, 23, 24, 25] [] (α := Nat) (fun k => [(5, T.i (k : Int))]) (fun k => []) (fun k => k ≤ a.length ∧ decide (a = b) = decide (a.drop k = b.drop k)) (fun k => a.length - k) 0 ⟨Nat.zero_le _, rfl⟩ ?_ ?_
    · exact le_head (ms := []) (by repeat (exact Out.refl _)) ⟨(by rfl), trivial⟩ trivial rfl rfl rfl rfl
    ·
      intro k ⟨hk, hh⟩
      refine awp_seq ?_
      refine awp_seq ?_
      refine awp_region 4 mixed (by kernel_rfl) ?_
      refine rg_q (q_move (x := .d (.v _)) rfl) ?_
      refine rg_q (q_move (x := .d (.sl _ _)) rfl) ?_
      refine rg_q (q_len isl44 rfl (by exact len_map _ _)) ?_
      refine rg_q (q_lss rfl rfl) ?_
      refine rg_nil ?_
      refine aops_nil ?_
      change Awp _ _ _ _ _
      refine awp_len (t := 12) rfl (fun hl12 => ?_)
      (try simp only [List.length_map] at hl12)
      refine awp_cond rfl (fun hc4 => ?_) (fun hc4 => ?_)
      ·
        (try simp only [decide_eq_true_eq, decide_eq_false_iff_not, Bool.and_eq_true, Bool.or_eq_true, Bool.and_eq_false_iff, Bool.or_eq_false_iff, Bool.not_eq_true', Bool.not_eq_false', Bool.not_true, Bool.not_false, bif_and, bif_or, Bool.not_not, ne_eq, Decidable.not_not, not_true_eq_false, not_false_eq_true, Int.not_le, Int.not_lt] at hc4)
        have hlt : k < a.length := by omega
        have hx := List.getElem?_eq_getElem hlt
        have hy := List.getElem?_eq_getElem (show k < b.length by omega)
        have hda : a.drop k = a[k] :: a.drop (k + 1) := List.drop_eq_getElem_cons hlt
        have hdb : b.drop k = b[k] :: b.drop (k + 1) := List.drop_eq_getElem_cons _
        generalize a[k] = x at *
        generalize b[k]'_ = y at *
        refine awp_skip ?_
        change Awp _ _ _ _ _
        refine awp_seq ?_
        refine awp_block ?_
        refine awp_seq ?_
        refine awp_region 9 mixed (by kernel_rfl) ?_
        refine rg_q (q_move (x := .d (.sl _ _)) rfl) ?_
        refine rg_q (q_move (x := .d (.v _)) rfl) ?_
        refine rg_q (q_indexAddr sl44 rfl rfl (by omega) (map_at (by omega) hx)) ?_
        refine rg_q (q_loadA (ds := [_, _]) sz49 rfl rfl rfl) ?_
        refine rg_q (q_move (x := .d (.sl _ _)) rfl) ?_
        refine rg_q (q_move (x := .d (.v _)) rfl) ?_
        refine rg_q (q_indexAddr sl44 rfl rfl (by omega) (map_at (by omega) hy)) ?_
        refine rg_q (q_loadA (ds := [_, _]) sz49 rfl rfl rfl) ?_
        refine rg_q (q_neqI (xs := [_, _]) (ys := [_, _]) eqi49 rfl rfl rfl rfl) ?_
        refine rg_nil ?_
        refine aops_nil ?_
        change Awp _ _ _ _ _
        refine awp_cond rfl (fun hc6 => ?_) (fun hc6 => ?_)
        ·
          (try simp only [decide_eq_true_eq, decide_eq_false_iff_not, Bool.and_eq_true, Bool.or_eq_true, Bool.and_eq_false_iff, Bool.or_eq_false_iff, Bool.not_eq_true', Bool.not_eq_false', Bool.not_true, Bool.not_false, bif_and, bif_or, Bool.not_not, ne_eq, Decidable.not_not, not_true_eq_false, not_false_eq_true, Int.not_le, Int.not_lt] at hc6)
          have hz : decide (a = b) = false := by rw [hh, hda, hdb]; exact decide_eq_false (fun e => by have e1 := (List.cons.inj e).1; rw [e1] at hc6; simp at hc6)
          refine awp_seq ?_
          refine awp_region 1 mixed (by kernel_rfl) ?_
          refine rg_q (q_assign (x := .d (.v _)) rfl) ?_
          refine rg_nil ?_
          refine aops_nil ?_
          change Awp _ _ _ _ _
          refine awp_ret ?_
          refine ⟨_, (.cons (.tmp (by exact .d _)) .nil), ?_⟩
          rw [hz]; rfl
        ·
          (try simp only [decide_eq_true_eq, decide_eq_false_iff_not, Bool.and_eq_true, Bool.or_eq_true, Bool.and_eq_false_iff, Bool.or_eq_false_iff, Bool.not_eq_true', Bool.not_eq_false', Bool.not_true, Bool.not_false, bif_and, bif_or, Bool.not_not, ne_eq, Decidable.not_not, not_true_eq_false, not_false_eq_true, Int.not_le, Int.not_lt] at hc6)
          have hxy : x = y := by
            have e1 : x.1 = y.1 := by simp_all
            have e2 : x.2 = y.2 := by simp_all
            exact Prod.ext e1 e2
          have hnx : decide (a = b) = decide (a.drop (k + 1) = b.drop (k + 1)) := by rw [hh, hda, hdb, hxy]; simp
          refine awp_skip ?_
          change Awp _ _ _ _ _
          refine awp_region 3 mixed (by kernel_rfl) ?_
          refine rg_q (q_move (x := .d (.v _)) rfl) ?_
          refine rg_q (q_add rfl rfl (In64.mk (by omega) (by omega))) ?_
          refine rg_q (q_assign (x := .d (.v _)) rfl) ?_
          refine rg_nil ?_
          refine aops_nil ?_
          refine ⟨k + 1, ⟨by omega, hnx⟩, by omega, ?_⟩
          exact le_head (ms := []) (by repeat (first | exact Out.head rfl rfl | (refine Out.put ?_ rfl))) ⟨(by rfl), trivial⟩ trivial rfl rfl rfl rfl
      ·
        (try simp only [decide_eq_true_eq, decide_eq_false_iff_not, Bool.and_eq_true, Bool.or_eq_true, Bool.and_eq_false_iff, Bool.or_eq_false_iff, Bool.not_eq_true', Bool.not_eq_false', Bool.not_true, Bool.not_false, bif_and, bif_or, Bool.not_not, ne_eq, Decidable.not_not, not_true_eq_false, not_false_eq_true, Int.not_le, Int.not_lt] at hc4)
        have hz : decide (a = b) = true := by rw [hh, List.drop_of_length_le (by omega), List.drop_of_length_le (by omega)]; rfl
        refine awp_exit ?_
        change Awp _ _ _ _ _
        refine awp_seq ?_
        refine awp_region 1 mixed (by kernel_rfl) ?_
        refine rg_q (q_assign (x := .d (.v _)) rfl) ?_
        refine rg_nil ?_
        refine aops_nil ?_
        change Awp _ _ _ _ _
        refine awp_ret ?_
        refine ⟨_, (.cons (.tmp (by exact .d _)) .nil), ?_⟩
        rw [hz]; rfl
set_option maxRecDepth 100000 in
theorem lawArrives_p (a : Lar) (x : Dly) (p : Int × Int) : PCG Tryz.prog GW 4 [.agg (larC a), .agg (dlyC x), .agg (shC p)] (.v (.bool (true))) := by
  refine pcg_of_awpN gw_keep Tryz.func4 rfl Tryz.ntmps4 (rs := [.tmp 6]) Tryz.results4 (by simp) fun w0 hmine hrnd hpn hG => ?_
  refine awp_seq ?_
  refine awp_region 4 mixed (by kernel_rfl) ?_
  refine rg_q (q_box rfl (by exact .inr ⟨_, rfl⟩)) ?_
  refine rg_q (q_box rfl (by exact .inr ⟨_, rfl⟩)) ?_
  refine rg_q (q_box rfl (by exact .inr ⟨_, rfl⟩)) ?_
  refine rg_q (q_assign (x := .d (.v _)) rfl) ?_
  refine rg_nil ?_
  refine aops_nil ?_
  change Awp _ _ _ _ _
  refine awp_seq ?_
  refine awp_seq ?_
  refine awp_region 2 mixed (by kernel_rfl) ?_
  refine rg_q (q_callG en17 .nil rfl hG (awake_p)) ?_
  refine rg_q (q_not rfl) ?_
  refine rg_nil ?_
  refine aops_nil ?_
  change Awp _ _ _ _ _
  refine awp_cond rfl (fun hc1 => ?_) (fun hc1 => ?_)
  ·
    simp at hc1
  ·
    (try simp only [decide_eq_true_eq, decide_eq_false_iff_not, Bool.and_eq_true, Bool.or_eq_true, Bool.and_eq_false_iff, Bool.or_eq_false_iff, Bool.not_eq_true', Bool.not_eq_false', Bool.not_true, Bool.not_false, bif_and, bif_or, Bool.not_not, ne_eq, Decidable.not_not, not_true_eq_false, not_false_eq_true, Int.not_le, Int.not_lt] at hc1)
    refine awp_skip ?_
    change Awp _ _ _ _ _
    refine awp_seq ?_
    refine awp_seq ?_
    refine awp_region 12 mixed (by kernel_rfl) ?_
    refine rg_q (q_fieldAddr fld26_0 rfl) ?_
    refine rg_q (q_load sz22 rfl rfl) ?_
    refine rg_q (q_len isl22 rfl (by exact len_map _ _)) ?_
    refine rg_q (q_call en18 (.cons rfl .nil) rfl (few_p _)) ?_
    refine rg_q (q_not rfl) ?_
    refine rg_q (q_move (x := .d (.v _)) rfl) ?_
    refine rg_g rfl rfl (fun hG => (q_fieldAddr fld33_1 rfl)) ?_
    refine rg_g rfl rfl (fun hG => (q_load sz31 rfl rfl)) ?_
    refine rg_g rfl rfl (fun hG => (q_len isl31 rfl (by exact len_map _ _))) ?_
    refine rg_g rfl rfl (fun hG => (q_call en18 (.cons rfl .nil) rfl (few_p _))) ?_
    refine rg_g rfl rfl (fun hG => (q_not rfl)) ?_
    refine rg_pick rfl rfl rfl rfl rfl rfl ?_
    refine rg_nil ?_
    refine aops_nil ?_
    change Awp _ _ _ _ _
    refine awp_len (t := 16) rfl (fun hl16 => ?_)
    (try simp only [List.length_map] at hl16)
    refine awp_cond rfl (fun hc3 => ?_) (fun hc3 => ?_)
    ·
      (try simp only [decide_eq_true_eq, decide_eq_false_iff_not, Bool.and_eq_true, Bool.or_eq_true, Bool.and_eq_false_iff, Bool.or_eq_false_iff, Bool.not_eq_true', Bool.not_eq_false', Bool.not_true, Bool.not_false, bif_and, bif_or, Bool.not_not, ne_eq, Decidable.not_not, not_true_eq_false, not_false_eq_true, Int.not_le, Int.not_lt] at hc3)
      refine awp_seq ?_
      refine awp_region 1 mixed (by kernel_rfl) ?_
      refine rg_q (q_assign (x := .d (.v _)) rfl) ?_
      refine rg_nil ?_
      refine aops_nil ?_
      change Awp _ _ _ _ _
      refine awp_ret ?_
      refine ⟨_, (.cons (.tmp (by exact .d _)) .nil), ?_⟩
      rfl
    ·
      (try simp only [decide_eq_true_eq, decide_eq_false_iff_not, Bool.and_eq_true, Bool.or_eq_true, Bool.and_eq_false_iff, Bool.or_eq_false_iff, Bool.not_eq_true', Bool.not_eq_false', Bool.not_true, Bool.not_false, bif_and, bif_or, Bool.not_not, ne_eq, Decidable.not_not, not_true_eq_false, not_false_eq_true, Int.not_le, Int.not_lt] at hc3)
      have hl1 : a.el.length ≤ 18 := by omega
      have hl2 : x.tk.length ≤ 18 := by omega
      refine awp_skip ?_
      change Awp _ _ _ _ _
      refine awp_seq ?_
      refine awp_region 11 mixed (by kernel_rfl) ?_
      refine rg_q (q_loadA (ds := [_, _, _, _, _, _]) sz26 rfl rfl rfl) ?_
      refine rg_q (q_call en20 (.cons rfl .nil) rfl (copyLar_p _ (by omega))) ?_
      refine rg_q (q_loadA (ds := [_, _]) sz33 rfl rfl rfl) ?_
      refine rg_q (q_call en26 (.cons rfl .nil) rfl (copyLaw_p _ (by omega))) ?_
      refine rg_q (q_loadA (ds := [_, _]) sz28 rfl rfl rfl) ?_
      refine rg_q (q_call en25 (.cons rfl (.cons rfl (.cons rfl .nil))) rfl (arv_p _ _ _)) ?_
      refine rg_q (q_move (x := .d (.tup _)) rfl) ?_
      refine rg_q (q_extract rfl rfl) ?_
      refine rg_q (q_extract rfl rfl) ?_
      refine rg_q (q_assign (x := .d (.sl _ _)) rfl) ?_
      refine rg_q (q_assign (x := .d (.v _)) rfl) ?_
      refine rg_nil ?_
      refine aops_nil ?_
      change Awp _ _ _ _ _
      refine awp_seq ?_
      refine awp_regionM 12 [none, none, none, none, none, none, none, none, none, some 9, some 9, none] mixed (by kernel_rfl) ?_
      refine rgm_q rfl (q_loadA (ds := [_, _, _, _, _, _]) sz26 rfl rfl rfl) ?_
      refine rgm_q rfl (q_call en20 (.cons rfl .nil) rfl (copyLar_p _ (by omega))) ?_
      refine rgm_q rfl (q_loadA (ds := [_, _]) sz33 rfl rfl rfl) ?_
      refine rgm_q rfl (q_call en26 (.cons rfl .nil) rfl (copyLaw_p _ (by omega))) ?_
      refine rgm_q rfl (q_loadA (ds := [_, _]) sz28 rfl rfl rfl) ?_
      refine rgm_q rfl (q_call en27 (.cons rfl (.cons rfl (.cons rfl .nil))) rfl (spread_p _ _ _)) ?_
      refine rgm_q rfl (q_move (x := .d (.tup _)) rfl) ?_
      refine rgm_q rfl (q_extract rfl rfl) ?_
      refine rgm_q rfl (q_extract rfl rfl) ?_
      refine rgm_m (k := 9) rfl rfl (by rfl) (m_alloc zr49 rfl rfl) ?_
      refine rgm_m (k := 9) rfl rfl (by rfl) (m_store sz49 rfl rfl (by exact .inr ⟨_, rfl⟩) rfl rfl (by decide) rfl) ?_
      refine rgm_q rfl (q_assign (x := .d (.v _)) rfl) ?_
      refine rgm_nil ?_
      refine aops_nil ?_
      change Awp _ _ _ _ _
      refine awp_seq ?_
      refine awp_region 4 mixed (by kernel_rfl) ?_
      refine rg_q (q_loadA (ds := [_, _, _, _, _, _]) sz26 rfl rfl rfl) ?_
      refine rg_q (q_loadA (ds := [_, _]) sz33 rfl rfl rfl) ?_
      refine rg_q (q_call en28 (.cons rfl (.cons rfl .nil)) rfl (pairErr_p _ _)) ?_
      refine rg_q (q_assign (x := .d (.v _)) rfl) ?_
      refine rg_nil ?_
      refine aops_nil ?_
      change Awp _ _ _ _ _
      refine awp_seq ?_
      refine awp_seq ?_
      refine awp_region 2 mixed (by kernel_rfl) ?_
      refine rg_q (q_move (x := .d (.v _)) rfl) ?_
      refine rg_q (q_eql rfl rfl) ?_
      refine rg_nil ?_
      refine aops_nil ?_
      change Awp _ _ _ _ _
      refine awp_cond rfl (fun hc8 => ?_) (fun hc8 => ?_)
      ·
        (try simp only [decide_eq_true_eq, decide_eq_false_iff_not, Bool.and_eq_true, Bool.or_eq_true, Bool.and_eq_false_iff, Bool.or_eq_false_iff, Bool.not_eq_true', Bool.not_eq_false', Bool.not_true, Bool.not_false, bif_and, bif_or, Bool.not_not, ne_eq, Decidable.not_not, not_true_eq_false, not_false_eq_true, Int.not_le, Int.not_lt] at hc8)
        have ho : opnE a x = 0 := by omega
        obtain ⟨k1, k2, k3⟩ := lop_ok ho
        obtain ⟨_, _, _, _, _, _, t1, t2⟩ := (lar_ok k1).1.md
        have hz0 : arvE a x p = plcE a p := by unfold arvE; rw [if_neg (fun h => h ho)]
        refine awp_region 4 mixed (by kernel_rfl) ?_
        refine rg_q (q_loadA (ds := [_, _, _, _, _, _]) sz26 rfl rfl rfl) ?_
        refine rg_q (q_loadA (ds := [_, _]) sz28 rfl rfl rfl) ?_
        refine rg_q (q_call en22 (.cons rfl (.cons rfl .nil)) rfl (rplaceErr_p a p t1 t2)) ?_
        refine rg_q (q_assign (x := .d (.v _)) rfl) ?_
        refine rg_nil ?_
        refine aops_nil ?_
        change Awp _ _ _ _ _
        refine awp_seq ?_
        refine awp_seq ?_
        refine awp_region 2 mixed (by kernel_rfl) ?_
        refine rg_q (q_move (x := .d (.v _)) rfl) ?_
        refine rg_q (q_neq rfl rfl) ?_
        refine rg_nil ?_
        refine aops_nil ?_
        change Awp _ _ _ _ _
        refine awp_cond rfl (fun hc10 => ?_) (fun hc10 => ?_)
        ·
          (try simp only [decide_eq_true_eq, decide_eq_false_iff_not, Bool.and_eq_true, Bool.or_eq_true, Bool.and_eq_false_iff, Bool.or_eq_false_iff, Bool.not_eq_true', Bool.not_eq_false', Bool.not_true, Bool.not_false, bif_and, bif_or, Bool.not_not, ne_eq, Decidable.not_not, not_true_eq_false, not_false_eq_true, Int.not_le, Int.not_lt] at hc10)
          have ha : arvR a x p = ([], arvE a x p) := by unfold arvR; rw [if_pos (by rw [hz0]; exact hc10)]
          have hs : sprR a x p = ((0, 0), arvE a x p) := by unfold sprR; rw [if_pos (by rw [hz0]; exact hc10)]
          rw [ha, hs, hz0]
          refine awp_seq ?_
          refine awp_region 19 mixed (by kernel_rfl) ?_
          refine rg_q (q_move (x := .d (.v _)) rfl) ?_
          refine rg_q (q_move (x := .d (.v _)) rfl) ?_
          refine rg_q (q_eql rfl rfl) ?_
          refine rg_q (q_move (x := .d (.v _)) rfl) ?_
          refine rg_g rfl rfl (fun hG => (q_move (x := .d (.v _)) rfl)) ?_
          refine rg_g rfl rfl (fun hG => (q_move (x := .d (.v _)) rfl)) ?_
          refine rg_g rfl rfl (fun hG => (q_eql rfl rfl)) ?_
          refine rg_pick rfl rfl rfl rfl rfl rfl ?_
          refine rg_q (q_move (x := .d (.v _)) rfl) ?_
          refine rg_g rfl rfl (fun hG => (q_move (x := .d (.sl _ _)) rfl)) ?_
          refine rg_g rfl rfl (fun hG => (q_len isl44 rfl (by exact len_map _ _))) ?_
          refine rg_g rfl rfl (fun hG => (q_eql rfl rfl)) ?_
          refine rg_pick rfl rfl rfl rfl rfl rfl ?_
          refine rg_q (q_move (x := .d (.v _)) rfl) ?_
          refine rg_g rfl rfl (fun hG => (q_load_refA (ds := [_, _]) sz49 rfl rfl rfl rfl)) ?_
          refine rg_g rfl rfl (fun hG => (q_build (cs := [_, _]) pl49 zr49 rfl .nil trivial rfl)) ?_
          refine rg_g rfl rfl (fun hG => (q_eqlI (xs := [_, _]) (ys := [_, _]) eqi49 rfl rfl rfl rfl)) ?_
          refine rg_pick rfl rfl rfl rfl rfl rfl ?_
          refine rg_q (q_assign (x := .d (.v _)) rfl) ?_
          refine rg_nil ?_
          refine aops_nil ?_
          change Awp _ _ _ _ _
          refine awp_ret ?_
          refine ⟨_, (.cons (.tmp (by exact .d _)) .nil), ?_⟩
          simp [retD]
        ·
          (try simp only [decide_eq_true_eq, decide_eq_false_iff_not, Bool.and_eq_true, Bool.or_eq_true, Bool.and_eq_false_iff, Bool.or_eq_false_iff, Bool.not_eq_true', Bool.not_eq_false', Bool.not_true, Bool.not_false, bif_and, bif_or, Bool.not_not, ne_eq, Decidable.not_not, not_true_eq_false, not_false_eq_true, Int.not_le, Int.not_lt] at hc10)
          have hp : plcE a p = 0 := by omega
          have ha : arvR a x p = (arrL a x p, 0) := by unfold arvR; rw [if_neg (by rw [hz0, hp]; simp)]
          have hs : sprR a x p = sprL (arrL a x p) := sprR_is2 ho hp
          refine awp_skip ?_
          change Awp _ _ _ _ _
          refine awp_seq ?_
          refine awp_region 7 mixed (by kernel_rfl) ?_
          refine rg_q (q_loadA (ds := [_, _, _, _, _, _]) sz26 rfl rfl rfl) ?_
          refine rg_q (q_loadA (ds := [_, _]) sz33 rfl rfl rfl) ?_
          refine rg_q (q_loadA (ds := [_, _]) sz28 rfl rfl rfl) ?_
          refine rg_q (q_call en29 (.cons rfl (.cons rfl (.cons rfl .nil))) rfl (rspread_p a x p ho hp)) ?_
          refine rg_q (q_move (x := .d (.tup _)) rfl) ?_
          refine rg_q (q_extract rfl rfl) ?_
          refine rg_q (q_extract rfl rfl) ?_
          refine rg_nil ?_
          refine aops_alloc zr49 rfl rfl rfl ?_
          refine aops_store sz49 rfl rfl (by exact .inr ⟨_, rfl⟩) rfl rfl (by decide) rfl ?_
          refine aops_q rfl (q_assign (x := .d (.v _)) rfl) ?_
          refine aops_nil ?_
          change Awp _ _ _ _ _
          refine awp_seq ?_
          refine awp_region 21 mixed (by kernel_rfl) ?_
          refine rg_q (q_move (x := .d (.v _)) rfl) ?_
          refine rg_q (q_eql rfl rfl) ?_
          refine rg_q (q_move (x := .d (.v _)) rfl) ?_
          refine rg_g rfl rfl (fun hG => (q_move (x := .d (.sl _ _)) rfl)) ?_
          refine rg_g rfl rfl (fun hG => (q_loadA (ds := [_, _, _, _, _, _]) sz26 rfl rfl rfl)) ?_
          refine rg_g rfl rfl (fun hG => (q_loadA (ds := [_, _]) sz33 rfl rfl rfl)) ?_
          refine rg_g rfl rfl (fun hG => (q_loadA (ds := [_, _]) sz28 rfl rfl rfl)) ?_
          refine rg_g rfl rfl (fun hG => (q_call en31 (.cons rfl (.cons rfl (.cons rfl .nil))) rfl (rarrivals_p a x p ho hp))) ?_
          refine rg_g rfl rfl (fun hG => (q_call en30 (.cons rfl (.cons rfl .nil)) rfl (ranges_p (arvR a x p).1 (arrL a x p)))) ?_
          refine rg_pick rfl rfl rfl rfl rfl rfl ?_
          refine rg_q (q_move (x := .d (.v _)) rfl) ?_
          refine rg_g rfl rfl (fun hG => (q_move (x := .d (.v _)) rfl)) ?_
          refine rg_g rfl rfl (fun hG => (q_move (x := .d (.v _)) rfl)) ?_
          refine rg_g rfl rfl (fun hG => (q_eql rfl rfl)) ?_
          refine rg_pick rfl rfl rfl rfl rfl rfl ?_
          refine rg_q (q_move (x := .d (.v _)) rfl) ?_
          refine rg_g rfl rfl (fun hG => (q_load_refA (ds := [_, _]) sz49 rfl rfl rfl rfl)) ?_
          refine rg_g rfl rfl (fun hG => (q_load_refA (ds := [_, _]) sz49 rfl rfl rfl rfl)) ?_
          refine rg_g rfl rfl (fun hG => (q_eqlI (xs := [_, _]) (ys := [_, _]) eqi49 rfl rfl rfl rfl)) ?_
          refine rg_pick rfl rfl rfl rfl rfl rfl ?_
          refine rg_q (q_assign (x := .d (.v _)) rfl) ?_
          refine rg_nil ?_
          refine aops_nil ?_
          change Awp _ _ _ _ _
          refine awp_ret ?_
          refine ⟨_, (.cons (.tmp (by exact .d _)) .nil), ?_⟩
          rw [ha, hs]; simp [retD]
      ·
        (try simp only [decide_eq_true_eq, decide_eq_false_iff_not, Bool.and_eq_true, Bool.or_eq_true, Bool.and_eq_false_iff, Bool.or_eq_false_iff, Bool.not_eq_true', Bool.not_eq_false', Bool.not_true, Bool.not_false, bif_and, bif_or, Bool.not_not, ne_eq, Decidable.not_not, not_true_eq_false, not_false_eq_true, Int.not_le, Int.not_lt] at hc8)
        have hz0 : arvE a x p = opnE a x := by unfold arvE; rw [if_pos hc8]
        refine awp_skip ?_
        change Awp _ _ _ _ _
        refine awp_seq ?_
        refine awp_seq ?_
        refine awp_region 2 mixed (by kernel_rfl) ?_
        refine rg_q (q_move (x := .d (.v _)) rfl) ?_
        refine rg_q (q_neq rfl rfl) ?_
        refine rg_nil ?_
        refine aops_nil ?_
        change Awp _ _ _ _ _
        refine awp_cond rfl (fun hc10 => ?_) (fun hc10 => ?_)
        ·
          (try simp only [decide_eq_true_eq, decide_eq_false_iff_not, Bool.and_eq_true, Bool.or_eq_true, Bool.and_eq_false_iff, Bool.or_eq_false_iff, Bool.not_eq_true', Bool.not_eq_false', Bool.not_true, Bool.not_false, bif_and, bif_or, Bool.not_not, ne_eq, Decidable.not_not, not_true_eq_false, not_false_eq_true, Int.not_le, Int.not_lt] at hc10)
          have ha : arvR a x p = ([], arvE a x p) := by unfold arvR; rw [if_pos (by rw [hz0]; exact hc10)]
          have hs : sprR a x p = ((0, 0), arvE a x p) := by unfold sprR; rw [if_pos (by rw [hz0]; exact hc10)]
          rw [ha, hs, hz0]
          refine awp_seq ?_
          refine awp_region 19 mixed (by kernel_rfl) ?_
          refine rg_q (q_move (x := .d (.v _)) rfl) ?_
          refine rg_q (q_move (x := .d (.v _)) rfl) ?_
          refine rg_q (q_eql rfl rfl) ?_
          refine rg_q (q_move (x := .d (.v _)) rfl) ?_
          refine rg_g rfl rfl (fun hG => (q_move (x := .d (.v _)) rfl)) ?_
          refine rg_g rfl rfl (fun hG => (q_move (x := .d (.v _)) rfl)) ?_
          refine rg_g rfl rfl (fun hG => (q_eql rfl rfl)) ?_
          refine rg_pick rfl rfl rfl rfl rfl rfl ?_
          refine rg_q (q_move (x := .d (.v _)) rfl) ?_
          refine rg_g rfl rfl (fun hG => (q_move (x := .d (.sl _ _)) rfl)) ?_
          refine rg_g rfl rfl (fun hG => (q_len isl44 rfl (by exact len_map _ _))) ?_
          refine rg_g rfl rfl (fun hG => (q_eql rfl rfl)) ?_
          refine rg_pick rfl rfl rfl rfl rfl rfl ?_
          refine rg_q (q_move (x := .d (.v _)) rfl) ?_
          refine rg_g rfl rfl (fun hG => (q_load_refA (ds := [_, _]) sz49 rfl rfl rfl rfl)) ?_
          refine rg_g rfl rfl (fun hG => (q_build (cs := [_, _]) pl49 zr49 rfl .nil trivial rfl)) ?_
          refine rg_g rfl rfl (fun hG => (q_eqlI (xs := [_, _]) (ys := [_, _]) eqi49 rfl rfl rfl rfl)) ?_
          refine rg_pick rfl rfl rfl rfl rfl rfl ?_
          refine rg_q (q_assign (x := .d (.v _)) rfl) ?_
          refine rg_nil ?_
          refine aops_nil ?_
          change Awp _ _ _ _ _
          refine awp_ret ?_
          refine ⟨_, (.cons (.tmp (by exact .d _)) .nil), ?_⟩
          simp [retD]
        ·
          exfalso; (try simp only [decide_eq_true_eq, decide_eq_false_iff_not, Bool.and_eq_true, Bool.or_eq_true, Bool.and_eq_false_iff, Bool.or_eq_false_iff, Bool.not_eq_true', Bool.not_eq_false', Bool.not_true, Bool.not_false, bif_and, bif_or, Bool.not_not, ne_eq, Decidable.not_not, not_true_eq_false, not_false_eq_true, Int.not_le, Int.not_lt] at hc10); omega
end Go.Proofs.YtgeieocphgnipaaGreatDoor.Am.M
