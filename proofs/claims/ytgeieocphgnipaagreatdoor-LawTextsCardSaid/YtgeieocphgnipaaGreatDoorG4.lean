/- Contracts over the abstract machine: package law: arrivals, spreads. Conditions: none. -/
import Derived.Test.YtgeieocphgnipaaGreatDoorG3
set_option linter.unusedVariables false
set_option linter.unusedSimpArgs false
-- mini
namespace Go.Proofs.YtgeieocphgnipaaGreatDoor.Am.M
open Go

theorem plcE_ok {a : Lar} {p : Int × Int} (h : plcE a p = 0) : (-100000 ≤ p.1 ∧ p.1 ≤ 100000) ∧ (-100000 ≤ p.2 ∧ p.2 ≤ 100000) ∧ 1 ≤ p.2 ∧ p.2 ≤ a.md.t - 1 := by
  unfold plcE at h
  by_cases h1 : (!inR (-100000) p.1 100000 || !inR (-100000) p.2 100000) = true
  · rw [if_pos h1] at h; cases h
  rw [if_neg h1] at h
  by_cases h2 : (!inR 1 p.2 (a.md.t - 1)) = true
  · rw [if_pos h2] at h; cases h
  simp [inR] at h1 h2
  omega
theorem lt_ok {a : Lar} {p : Int × Int} (hla : LarOk a) (hp : plcE a p = 0) {s : Int × Int} (hs : s ∈ a.el) : (ltI a.md s p).2 = 0 ∧ modeE a.md = 0 ∧ wayE a.md s p = 0 := by
  obtain ⟨h1, h2, h3, h4⟩ := plcE_ok hp
  obtain ⟨e1, e2, e3, e4⟩ := hla.el s hs
  have hm : modeE a.md = 0 := mode_ok.2 hla.md
  have hw : wayE a.md s p = 0 := by
    unfold wayE
    rw [first_zero]
    simp only [List.mem_cons, List.not_mem_nil, or_false, forall_eq_or_imp, forall_eq, must_zero (show (15 : Int) ≠ 0 by omega), must_zero (show (22 : Int) ≠ 0 by omega), spot_ok, inR, Bool.and_eq_true, decide_eq_true_eq]
    omega
  refine ⟨?_, hm, hw⟩
  have ho : opnI a.md s p = wayI a.md s p := by unfold opnI; rw [if_neg (fun h => h hm)]
  unfold ltI
  rw [ho, (way_law hla.md hw).1]
  rfl
def elA (a : Lar) (i : Int) : Int × Int := a.el.getD i.toNat (0, 0)
theorem elA_at {a : Lar} {i : Nat} {s : Int × Int} (h : a.el[i]? = some s) : elA a (i : Int) = s := by unfold elA; rw [List.getD_eq_getElem?_getD, Int.toNat_natCast, h]; rfl
def arrI (a : Lar) (x : Dly) (p : Int × Int) (y : Int × Int) : Int × Int := ((ltI a.md (elA a y.1) p).1.1 + y.2 * x.ck, (ltI a.md (elA a y.1) p).1.2 + y.2 * x.ck)
def arrL (a : Lar) (x : Dly) (p : Int × Int) : List (Int × Int) := (sndL x).map (arrI a x p)
theorem arr_in {a : Lar} {x : Dly} {p : Int × Int} (hok : DlyOk x) : ∀ r ∈ arrL a x p, (0 ≤ r.1 ∧ r.1 ≤ 2000000000000) ∧ 0 ≤ r.2 ∧ r.2 ≤ 2000000000000 := by
  intro r hr
  obtain ⟨y, hy, rfl⟩ := List.mem_map.1 hr
  obtain ⟨b1, b2, b3, b4⟩ := sndTo_in (Nat.le_refl _) (show y ∈ sndTo x.tk x.tk.length from hy)
  have ht := hok.tk _ (List.mem_of_getElem? b3)
  have hc1 := hok.c1
  have hc2 := hok.c2
  have m := mulb (a := y.2) (b := x.ck) (A := 1000000) (B := 1000000) (by omega) (by omega) (by omega) (by omega)
  have m0 := Int.mul_nonneg b4 (show 0 ≤ x.ck by omega)
  obtain ⟨l1, l2, l3, l4⟩ := lt_in a.md (elA a y.1) p
  unfold arrI
  simp only
  omega
set_option maxRecDepth 100000 in
theorem arrivals_p (a : Lar) (x : Dly) (p : Int × Int) (ho : opnE a x = 0) (hp : plcE a p = 0) : PC Tryz.prog 88 [.agg (bmC a x), .agg (shC p)] (.tup [.sl 2 ((arrL a x p).map shC), .v (.int .i64 (0))]) := by
  obtain ⟨h1, h2, h3⟩ := lop_ok ho
  have hla := (lar_ok h1).1
  have hok := (ckLaw_ok h2).1
  have hn2 := hok.n2
  have hc1 := hok.c1
  have hc22 := hok.c2
  refine pc_of_awpN Tryz.func88 rfl Tryz.ntmps88 (rs := [.tmp 4, .tmp 5]) Tryz.results88 (by simp) fun w0 hmine hrnd hpn => ?_
  refine awp_seq ?_
  refine awp_region 4 mixed (by kernel_rfl) ?_
  refine rg_q (q_box rfl (by exact .inr ⟨_, rfl⟩)) ?_
  refine rg_q (q_box rfl (by exact .inr ⟨_, rfl⟩)) ?_
  refine rg_q (q_assign (x := .d (.sl _ _)) rfl) ?_
  refine rg_q (q_assign (x := .d (.v _)) rfl) ?_
  refine rg_nil ?_
  refine aops_nil ?_
  change Awp _ _ _ _ _
  refine awp_seq ?_
  refine awp_region 1 mixed (by kernel_rfl) ?_
  refine rg_q (q_assign_nil) ?_
  refine rg_nil ?_
  refine aops_nil ?_
  change Awp _ _ _ _ _
  refine Awp.le (le_own (k := 6) (e := 49) (sz := 2) rfl rfl) ?_
  refine awp_seq ?_
  refine awp_seq ?_
  refine awp_region 5 mixed (by kernel_rfl) ?_
  refine rg_q (q_fieldAddr fld138_1 rfl) ?_
  refine rg_q (q_fieldAddr fld33_1 rfl) ?_
  refine rg_q (q_load sz31 rfl rfl) ?_
  refine rg_q (q_len isl31 rfl (by exact len_map _ _)) ?_
  refine rg_q (q_move (x := .d (.v _)) rfl) ?_
  refine rg_nil ?_
  refine aops_nil ?_
  change Awp _ _ _ _ _
  refine awp_len (t := 14) rfl (fun hl14 => ?_)
  (try simp only [List.length_map] at hl14)
  refine awp_block ?_
  refine awp_loopH [4, 5, 6, 7, 8, 9, 10, 11, 16, 17, 18, 19, 20, 21, 22, 23, 24, 25, 26, 27, 28, 29, 30, 31, 32, 33, 34, 35, 36, 37, 38, 39, 40, 41, 42, 43, 44, 45, 46, 47, 48, 49, 50, 51, 52, 53, 54, 55, 56, 57, 58] [6] (α := Nat) (fun k => [(16, T.i (k : Int)), (6, .rs 6)]) (fun k => [(6, .row 49 2 ((sndTo x.tk k).map fun y => shC (arrI a x p y)))]) (fun k => k ≤ x.tk.length) (fun k => x.tk.length - k) 0 (Nat.zero_le _) ?_ ?_
  · exact le_head (ms := [6]) (by repeat (exact Out.refl _)) ⟨(by rfl), (by rfl), trivial⟩ ⟨(by rfl), trivial⟩ rfl rfl rfl rfl
  ·
    intro k hk
    refine awp_seq ?_
    refine awp_region 1 mixed (by kernel_rfl) ?_
    refine rg_q (q_lss rfl rfl) ?_
    refine rg_nil ?_
    refine aops_nil ?_
    change Awp _ _ _ _ _
    refine awp_seq ?_
    refine awp_cond rfl (fun hc3 => ?_) (fun hc3 => ?_)
    ·
      (try simp only [decide_eq_true_eq, decide_eq_false_iff_not, Bool.and_eq_true, Bool.or_eq_true, Bool.and_eq_false_iff, Bool.or_eq_false_iff, Bool.not_eq_true', Bool.not_eq_false', Bool.not_true, Bool.not_false, bif_and, bif_or, Bool.not_not, ne_eq, Decidable.not_not, not_true_eq_false, not_false_eq_true, Int.not_le, Int.not_lt] at hc3)
      have hlt : k < x.tk.length := by omega
      obtain ⟨n, hx⟩ : ∃ n, x.tk[k]? = some n := ⟨_, List.getElem?_eq_getElem hlt⟩
      obtain ⟨s, hel⟩ : ∃ s, a.el[k]? = some s := ⟨_, List.getElem?_eq_getElem (by omega)⟩
      have hnn := hok.tk n (List.mem_of_getElem? hx)
      obtain ⟨hl0, _, _⟩ := lt_ok hla hp (List.mem_of_getElem? hel)
      obtain ⟨l1, l2, l3, l4⟩ := lt_in a.md s p
      refine awp_skip ?_
      change Awp _ _ _ _ _
      refine awp_seq ?_
      refine awp_block ?_
      refine awp_seq ?_
      refine awp_region 5 mixed (by kernel_rfl) ?_
      refine rg_q (q_move (x := .d (.v _)) rfl) ?_
      refine rg_q (q_indexAddr sl31 rfl rfl (by omega) (map_at (by omega) hx)) ?_
      refine rg_q (q_load sz3 rfl rfl) ?_
      refine rg_q (q_assign (x := .d (.v _)) rfl) ?_
      refine rg_q (q_assign (x := .d (.v _)) rfl) ?_
      refine rg_nil ?_
      refine aops_nil ?_
      change Awp _ _ _ _ _
      refine awp_seq ?_
      refine awp_seq ?_
      refine awp_region 3 mixed (by kernel_rfl) ?_
      refine rg_q (q_move (x := .d (.v _)) rfl) ?_
      refine rg_q (q_call en120 (.cons rfl .nil) rfl (sends_p _)) ?_
      refine rg_q (q_not rfl) ?_
      refine rg_nil ?_
      refine aops_nil ?_
      change Awp _ _ _ _ _
      refine awp_cond rfl (fun hc5 => ?_) (fun hc5 => ?_)
      ·
        (try simp only [decide_eq_true_eq, decide_eq_false_iff_not, Bool.and_eq_true, Bool.or_eq_true, Bool.and_eq_false_iff, Bool.or_eq_false_iff, Bool.not_eq_true', Bool.not_eq_false', Bool.not_true, Bool.not_false, bif_and, bif_or, Bool.not_not, ne_eq, Decidable.not_not, not_true_eq_false, not_false_eq_true, Int.not_le, Int.not_lt] at hc5)
        have hsk := sndTo_no hx (by omega)
        refine awp_exit ?_
        change Awp _ _ _ _ _
        refine awp_region 2 mixed (by kernel_rfl) ?_
        refine rg_q (q_add rfl rfl (In64.mk (by omega) (by omega))) ?_
        refine rg_q (q_move (x := .d (.v _)) rfl) ?_
        refine rg_nil ?_
        refine aops_nil ?_
        refine ⟨k + 1, by omega, by omega, ?_⟩
        exact le_head (ms := [6]) (by repeat (first | exact Out.head rfl rfl | (refine Out.put ?_ rfl))) ⟨(by rfl), (by rfl), trivial⟩ ⟨(by ((show Site.row 49 2 _ = Site.row 49 2 _; rw [hsk]))), trivial⟩ rfl rfl rfl rfl
      ·
        (try simp only [decide_eq_true_eq, decide_eq_false_iff_not, Bool.and_eq_true, Bool.or_eq_true, Bool.and_eq_false_iff, Bool.or_eq_false_iff, Bool.not_eq_true', Bool.not_eq_false', Bool.not_true, Bool.not_false, bif_and, bif_or, Bool.not_not, ne_eq, Decidable.not_not, not_true_eq_false, not_false_eq_true, Int.not_le, Int.not_lt] at hc5)
        have hn0 : 0 ≤ n := by omega
        have hsk0 := sndTo_yes hx hn0
        have m := mulb (a := n) (b := x.ck) (A := 1000000) (B := 1000000) (by omega) (by omega) (by omega) (by omega)
        have m0 := Int.mul_nonneg hn0 (show 0 ≤ x.ck by omega)
        have hsk : ((sndTo x.tk (k + 1)).map fun y => shC (arrI a x p y)) = ((sndTo x.tk k).map fun y => shC (arrI a x p y)) ++ [[.v (.int .i64 ((ltI a.md s p).1.1 + n * x.ck)), .v (.int .i64 ((ltI a.md s p).1.2 + n * x.ck))]] := by
          rw [hsk0, List.map_append]
          simp only [List.map_cons, List.map_nil, arrI, elA_at hel, shC]
        have hln : (sndTo x.tk k).length ≤ 16 := Nat.le_trans sndTo_len (by omega)
        refine awp_skip ?_
        change Awp _ _ _ _ _
        refine awp_seq ?_
        refine awp_regionM 17 [none, none, none, none, none, none, none, none, none, none, none, none, none, none, some 9, some 9, none] mixed (by kernel_rfl) ?_
        refine rgm_q rfl (q_fieldAddr fld138_0 rfl) ?_
        refine rgm_q rfl (q_fieldAddr fld26_1 rfl) ?_
        refine rgm_q rfl (q_loadA (ds := [_, _, _, _]) sz24 rfl rfl rfl) ?_
        refine rgm_q rfl (q_fieldAddr fld138_0 rfl) ?_
        refine rgm_q rfl (q_fieldAddr fld26_0 rfl) ?_
        refine rgm_q rfl (q_load sz22 rfl rfl) ?_
        refine rgm_q rfl (q_move (x := .d (.v _)) rfl) ?_
        refine rgm_q rfl (q_indexAddr sl22 rfl rfl (by omega) (map_at (by omega) hel)) ?_
        refine rgm_q rfl (q_loadA (ds := [_, _]) sz28 rfl rfl rfl) ?_
        refine rgm_q rfl (q_loadA (ds := [_, _]) sz28 rfl rfl rfl) ?_
        refine rgm_q rfl (q_call en41 (.cons rfl (.cons rfl (.cons rfl .nil))) rfl (leastTime_p _ _ _)) ?_
        refine rgm_q rfl (q_move (x := .d (.tup _)) rfl) ?_
        refine rgm_q rfl (q_extract rfl rfl) ?_
        refine rgm_q rfl (q_extract rfl rfl) ?_
        refine rgm_m (k := 9) rfl rfl (by rfl) (m_alloc zr49 rfl rfl) ?_
        refine rgm_m (k := 9) rfl rfl (by rfl) (m_store sz49 rfl rfl (by exact .inr ⟨_, rfl⟩) rfl rfl (by decide) rfl) ?_
        refine rgm_q rfl (q_assign (x := .d (.v _)) rfl) ?_
        refine rgm_nil ?_
        refine aops_nil ?_
        change Awp _ _ _ _ _
        refine awp_seq ?_
        refine awp_seq ?_
        refine awp_region 2 mixed (by kernel_rfl) ?_
        refine rg_q (q_move (x := .d (.v _)) rfl) ?_
        refine rg_q (q_neq rfl rfl) ?_
        refine rg_nil ?_
        refine aops_nil ?_
        change Awp _ _ _ _ _
        refine awp_cond rfl (fun hc7 => ?_) (fun hc7 => ?_)
        ·
          exact absurd hl0 (of_decide_eq_true hc7)
        ·
          (try simp only [decide_eq_true_eq, decide_eq_false_iff_not, Bool.and_eq_true, Bool.or_eq_true, Bool.and_eq_false_iff, Bool.or_eq_false_iff, Bool.not_eq_true', Bool.not_eq_false', Bool.not_true, Bool.not_false, bif_and, bif_or, Bool.not_not, ne_eq, Decidable.not_not, not_true_eq_false, not_false_eq_true, Int.not_le, Int.not_lt] at hc7)
          refine awp_skip ?_
          change Awp _ _ _ _ _
          refine awp_seq ?_
          refine awp_region 6 mixed (by kernel_rfl) ?_
          refine rg_q (q_move (x := .d (.v _)) rfl) ?_
          refine rg_q (q_fieldAddr fld138_1 rfl) ?_
          refine rg_q (q_fieldAddr fld33_0 rfl) ?_
          refine rg_q (q_load sz3 rfl rfl) ?_
          refine rg_q (q_mul rfl rfl (In64.mk (by omega) (by omega))) ?_
          refine rg_q (q_assign (x := .d (.v _)) rfl) ?_
          refine rg_nil ?_
          refine aops_nil ?_
          change Awp _ _ _ _ _
          refine awp_region 11 mixed (by kernel_rfl) ?_
          refine rg_q (q_move (x := .rs _) rfl) ?_
          refine rg_q (q_fieldAddr_ref fld49_0 rfl) ?_
          refine rg_q (q_load_ref sz3 rfl rfl rfl) ?_
          refine rg_q (q_move (x := .d (.v _)) rfl) ?_
          refine rg_q (q_add rfl rfl (In64.mk (by omega) (by omega))) ?_
          refine rg_q (q_fieldAddr_ref fld49_1 rfl) ?_
          refine rg_q (q_load_ref sz3 rfl rfl rfl) ?_
          refine rg_q (q_move (x := .d (.v _)) rfl) ?_
          refine rg_q (q_add rfl rfl (In64.mk (by omega) (by omega))) ?_
          refine rg_q (q_build (cs := [_, _]) pl49 zr49 rfl (.cons rfl (by exact .inl rfl) (.cons rfl (by exact .inl rfl) .nil)) ⟨⟨rfl, by decide⟩, ⟨rfl, by decide⟩, trivial⟩ rfl) ?_
          refine rg_q (q_buildSlice sl44 zr49 rfl rfl (by decide) (.cons rfl (by exact .inr ⟨_, rfl⟩) .nil) ⟨rfl, rfl, trivial⟩ rfl (by decide) rfl) ?_
          refine rg_nil ?_
          refine aops_append sl44 zr49 by49 rfl (by decide) rfl rfl rfl rfl (by (try simp only [List.length_map, List.length_append, List.length_cons, List.length_nil]); omega) (by (try simp only [List.length_map, List.length_append, List.length_cons, List.length_nil]); omega) rfl rfl ?_
          refine aops_q rfl (q_assign (x := .rs _) rfl) ?_
          refine aops_nil ?_
          change Awp _ _ _ _ _
          refine awp_region 2 mixed (by kernel_rfl) ?_
          refine rg_q (q_add rfl rfl (In64.mk (by omega) (by omega))) ?_
          refine rg_q (q_move (x := .d (.v _)) rfl) ?_
          refine rg_nil ?_
          refine aops_nil ?_
          refine ⟨k + 1, by omega, by omega, ?_⟩
          exact le_head (ms := [6]) (by repeat (first | exact Out.head rfl rfl | (refine Out.put ?_ rfl) | (refine Out.site ?_ rfl) | (refine Out.killS ?_ rfl))) ⟨(by rfl), (by rfl), trivial⟩ ⟨(by ((show Site.row 49 2 (_ ++ [_]) = Site.row 49 2 _; rw [hsk]; rfl))), trivial⟩ rfl rfl rfl rfl
    ·
      (try simp only [decide_eq_true_eq, decide_eq_false_iff_not, Bool.and_eq_true, Bool.or_eq_true, Bool.and_eq_false_iff, Bool.or_eq_false_iff, Bool.not_eq_true', Bool.not_eq_false', Bool.not_true, Bool.not_false, bif_and, bif_or, Bool.not_not, ne_eq, Decidable.not_not, not_true_eq_false, not_false_eq_true, Int.not_le, Int.not_lt] at hc3)
      have hkn : k = x.tk.length := by omega
      subst hkn
      refine awp_exit ?_
      change Awp _ _ _ _ _
      refine awp_seq ?_
      have hfin : ((sndTo x.tk x.tk.length).map fun y => shC (arrI a x p y)) = (arrL a x p).map shC := by unfold arrL sndL; rw [List.map_map]; rfl
      rw [hfin]
      refine awp_region 3 mixed (by kernel_rfl) ?_
      refine rg_q (q_move (x := .rs _) rfl) ?_
      refine rg_q (q_assign (x := .rs _) rfl) ?_
      refine rg_q (q_assign (x := .d (.v _)) rfl) ?_
      refine rg_nil ?_
      refine aops_nil ?_
      change Awp _ _ _ _ _
      refine awp_ret ?_
      refine ⟨_, (.cons (.tmp (by exact .rs rfl)) (.cons (.tmp (by exact .d _)) .nil)), ?_⟩
      rfl

def fdF (f : Int → Int → Int) (z : Int) (l : List Int) (k : Nat) : Int := (l.take k).foldl f z
theorem fdF_succ {f : Int → Int → Int} {z : Int} {l : List Int} {k : Nat} {y : Int} (h : l[k]? = some y) : fdF f z l (k + 1) = f (fdF f z l k) y := by
  obtain ⟨hlt, hx⟩ := List.getElem?_eq_some_iff.1 h
  unfold fdF
  rw [List.take_succ_eq_append_getElem hlt, hx, List.foldl_append]; rfl
theorem fdF_min {l : List Int} {z : Int} (h : l[0]? = some z) : fdF min z l l.length = minF l := by
  cases l with
  | nil => cases h
  | cons x xs =>
    have : x = z := by simpa using h
    subst this
    unfold fdF
    rw [List.take_length]
    show xs.foldl min (min x x) = xs.foldl min x
    rw [Int.min_self]
theorem fdF_max {l : List Int} {z : Int} (h : l[0]? = some z) : fdF max z l l.length = maxF l := by
  cases l with
  | nil => cases h
  | cons x xs =>
    have : x = z := by simpa using h
    subst this
    unfold fdF
    rw [List.take_length]
    show xs.foldl max (max x x) = xs.foldl max x
    rw [Int.max_self]
def los (l : List (Int × Int)) : List Int := l.map fun r => r.1
def his (l : List (Int × Int)) : List Int := l.map fun r => r.2
theorem los_at {l : List (Int × Int)} {k : Nat} {r : Int × Int} (h : l[k]? = some r) : (los l)[k]? = some r.1 := by unfold los; rw [List.getElem?_map, h]; rfl
theorem his_at {l : List (Int × Int)} {k : Nat} {r : Int × Int} (h : l[k]? = some r) : (his l)[k]? = some r.2 := by unfold his; rw [List.getElem?_map, h]; rfl
/-- The spread of arrivals. -/
def sprI (l : List (Int × Int)) : Int × Int := (max 0 (maxF (los l) - minF (his l)), maxF (his l) - minF (los l))
def sprL (l : List (Int × Int)) : (Int × Int) × Int := if l.length = 0 then ((0, 0), 12) else (sprI l, 0)
theorem mm_in {l : List Int} {b : Int} (hl : l ≠ []) (h : ∀ x ∈ l, 0 ≤ x ∧ x ≤ b) : (0 ≤ minF l ∧ minF l ≤ b) ∧ 0 ≤ maxF l ∧ maxF l ≤ b := ⟨h _ (minF_mem hl), h _ (maxF_mem hl)⟩
set_option maxRecDepth 100000 in
theorem bspread_p (a : Lar) (x : Dly) (p : Int × Int) (ho : opnE a x = 0) (hp : plcE a p = 0) : PC Tryz.prog 89 [.agg (bmC a x), .agg (shC p)] (.tup [.agg [.v (.int .i64 ((sprL (arrL a x p)).1.1)), .v (.int .i64 ((sprL (arrL a x p)).1.2))], .v (.int .i64 ((sprL (arrL a x p)).2))]) := by
  obtain ⟨h1, h2, h3⟩ := lop_ok ho
  have hok := (ckLaw_ok h2).1
  have hin := arr_in (a := a) (p := p) hok
  generalize hL : arrL a x p = L at *
  have hl1 : (los L).length = L.length := List.length_map _
  have hl2 : (his L).length = L.length := List.length_map _
  refine pc_of_awpN Tryz.func89 rfl Tryz.ntmps89 (rs := [.cell 4 49, .tmp 5]) Tryz.results89 (by simp) fun w0 hmine hrnd hpn => ?_
  refine awp_seq ?_
  refine awp_region 2 mixed (by kernel_rfl) ?_
  refine rg_q (q_box rfl (by exact .inr ⟨_, rfl⟩)) ?_
  refine rg_q (q_box rfl (by exact .inr ⟨_, rfl⟩)) ?_
  refine rg_nil ?_
  refine aops_alloc zr49 rfl rfl rfl ?_
  refine aops_q rfl (q_assign (x := .d (.v _)) rfl) ?_
  refine aops_nil ?_
  change Awp _ _ _ _ _
  refine awp_seq ?_
  refine awp_region 8 mixed (by kernel_rfl) ?_
  refine rg_q (q_loadA (ds := [_, _, _, _, _, _, _, _]) sz138 rfl rfl rfl) ?_
  refine rg_q (q_loadA (ds := [_, _]) sz28 rfl rfl rfl) ?_
  refine rg_q (q_call en88 (.cons rfl (.cons rfl .nil)) rfl ((by have := arrivals_p a x p ho hp; rw [hL] at this; exact this))) ?_
  refine rg_q (q_move (x := .d (.tup _)) rfl) ?_
  refine rg_q (q_extract rfl rfl) ?_
  refine rg_q (q_extract rfl rfl) ?_
  refine rg_q (q_assign (x := .d (.sl _ _)) rfl) ?_
  refine rg_q (q_assign (x := .d (.v _)) rfl) ?_
  refine rg_nil ?_
  refine aops_nil ?_
  change Awp _ _ _ _ _
  refine awp_seq ?_
  refine awp_block ?_
  refine awp_seq ?_
  refine awp_region 3 mixed (by kernel_rfl) ?_
  refine rg_q (q_move (x := .d (.v _)) rfl) ?_
  refine rg_q (q_neq rfl rfl) ?_
  refine rg_q (q_assign (x := .d (.v _)) rfl) ?_
  refine rg_nil ?_
  refine aops_nil ?_
  change Awp _ _ _ _ _
  refine awp_cond rfl (fun hc2 => ?_) (fun hc2 => ?_)
  ·
    simp at hc2
  ·
    (try simp only [decide_eq_true_eq, decide_eq_false_iff_not, Bool.and_eq_true, Bool.or_eq_true, Bool.and_eq_false_iff, Bool.or_eq_false_iff, Bool.not_eq_true', Bool.not_eq_false', Bool.not_true, Bool.not_false, bif_and, bif_or, Bool.not_not, ne_eq, Decidable.not_not, not_true_eq_false, not_false_eq_true, Int.not_le, Int.not_lt] at hc2)
    refine awp_seq ?_
    refine awp_region 4 mixed (by kernel_rfl) ?_
    refine rg_q (q_move (x := .d (.sl _ _)) rfl) ?_
    refine rg_q (q_len isl44 rfl (by exact len_map _ _)) ?_
    refine rg_q (q_eql rfl rfl) ?_
    refine rg_q (q_assign (x := .d (.v _)) rfl) ?_
    refine rg_nil ?_
    refine aops_nil ?_
    change Awp _ _ _ _ _
    refine awp_len (t := 24) rfl (fun hl24 => ?_)
    (try simp only [List.length_map] at hl24)
    refine awp_cond rfl (fun hc4 => ?_) (fun hc4 => ?_)
    ·
      (try simp only [decide_eq_true_eq, decide_eq_false_iff_not, Bool.and_eq_true, Bool.or_eq_true, Bool.and_eq_false_iff, Bool.or_eq_false_iff, Bool.not_eq_true', Bool.not_eq_false', Bool.not_true, Bool.not_false, bif_and, bif_or, Bool.not_not, ne_eq, Decidable.not_not, not_true_eq_false, not_false_eq_true, Int.not_le, Int.not_lt] at hc4)
      try simp only [List.length_map] at hc4
      have hz : sprL L = ((0, 0), 12) := by unfold sprL; rw [if_pos (by omega)]
      refine awp_seq ?_
      refine awp_region 1 mixed (by kernel_rfl) ?_
      refine rg_q (q_build (cs := [_, _]) pl49 zr49 rfl .nil trivial rfl) ?_
      refine rg_nil ?_
      refine aops_store sz49 rfl rfl (by exact .inr ⟨_, rfl⟩) rfl rfl (by decide) rfl ?_
      refine aops_q rfl (q_assign (x := .d (.v _)) rfl) ?_
      refine aops_nil ?_
      change Awp _ _ _ _ _
      refine awp_ret ?_
      refine ⟨_, (.cons (.cellA rfl rfl sz49 rfl) (.cons (.tmp (by exact .d _)) .nil)), ?_⟩
      rw [hz]; rfl
    ·
      (try simp only [decide_eq_true_eq, decide_eq_false_iff_not, Bool.and_eq_true, Bool.or_eq_true, Bool.and_eq_false_iff, Bool.or_eq_false_iff, Bool.not_eq_true', Bool.not_eq_false', Bool.not_true, Bool.not_false, bif_and, bif_or, Bool.not_not, ne_eq, Decidable.not_not, not_true_eq_false, not_false_eq_true, Int.not_le, Int.not_lt] at hc4)
      try simp only [List.length_map] at hc4
      obtain ⟨z, hx0⟩ : ∃ z, L[0]? = some z := ⟨_, List.getElem?_eq_getElem (by omega)⟩
      have hz : sprL L = (sprI L, 0) := by unfold sprL; rw [if_neg (by omega)]
      have hn1 : los L ≠ [] := fun e => by have := congrArg List.length e; simp only [List.length_nil] at this; omega
      have hn2 : his L ≠ [] := fun e => by have := congrArg List.length e; simp only [List.length_nil] at this; omega
      have q1 := mm_in hn1 (b := 2000000000000) fun v hv => by obtain ⟨r, hr, rfl⟩ := List.mem_map.1 hv; exact (hin r hr).1
      have q2 := mm_in hn2 (b := 2000000000000) fun v hv => by obtain ⟨r, hr, rfl⟩ := List.mem_map.1 hv; exact (hin r hr).2
      have f1 := fdF_min (los_at hx0)
      have f2 := fdF_max (his_at hx0)
      have f3 := fdF_max (los_at hx0)
      have f4 := fdF_min (his_at hx0)
      rw [hl1] at f1 f3
      rw [hl2] at f2 f4
      refine awp_skip ?_
      change Awp _ _ _ _ _
      refine awp_seq ?_
      refine awp_regionM 10 [none, none, none, none, none, none, some 8, some 9, some 8, some 9] mixed (by kernel_rfl) ?_
      refine rgm_q rfl (q_move (x := .d (.sl _ _)) rfl) ?_
      refine rgm_q rfl (q_indexAddr sl44 rfl rfl (by omega) (map_at (k := 0) (by omega) hx0)) ?_
      refine rgm_q rfl (q_loadA (ds := [_, _]) sz49 rfl rfl rfl) ?_
      refine rgm_q rfl (q_move (x := .d (.sl _ _)) rfl) ?_
      refine rgm_q rfl (q_indexAddr sl44 rfl rfl (by omega) (map_at (k := 0) (by omega) hx0)) ?_
      refine rgm_q rfl (q_loadA (ds := [_, _]) sz49 rfl rfl rfl) ?_
      refine rgm_m (k := 8) rfl rfl (by rfl) (m_alloc zr49 rfl rfl) ?_
      refine rgm_m (k := 9) rfl rfl (by rfl) (m_alloc zr49 rfl rfl) ?_
      refine rgm_m (k := 8) rfl rfl (by rfl) (m_store sz49 rfl rfl (by exact .inr ⟨_, rfl⟩) rfl rfl (by decide) rfl) ?_
      refine rgm_m (k := 9) rfl rfl (by rfl) (m_store sz49 rfl rfl (by exact .inr ⟨_, rfl⟩) rfl rfl (by decide) rfl) ?_
      refine rgm_nil ?_
      refine aops_nil ?_
      change Awp _ _ _ _ _
      refine awp_seq ?_
      refine awp_seq ?_
      refine awp_region 3 mixed (by kernel_rfl) ?_
      refine rg_q (q_move (x := .d (.sl _ _)) rfl) ?_
      refine rg_q (q_len isl44 rfl (by exact len_map _ _)) ?_
      refine rg_q (q_move (x := .d (.v _)) rfl) ?_
      refine rg_nil ?_
      refine aops_nil ?_
      change Awp _ _ _ _ _
      refine awp_len (t := 34) rfl (fun hl34 => ?_)
      (try simp only [List.length_map] at hl34)
      refine awp_block ?_
      refine awp_loopH [11, 36, 37, 38, 39, 40, 41, 42, 43, 44, 45, 46, 47, 48, 49, 50, 51, 52, 53, 54, 55, 56, 57, 58, 59, 60, 61, 62] [8, 9] (α := Nat) (fun k => [(36, T.i (k : Int))]) (fun k => [(8, .box [.v (.int .i64 (fdF min z.1 (los L) k)), .v (.int .i64 (fdF max z.2 (his L) k))]), (9, .box [.v (.int .i64 (fdF max z.1 (los L) k)), .v (.int .i64 (fdF min z.2 (his L) k))])]) (fun k => k ≤ L.length) (fun k => L.length - k) 0 (Nat.zero_le _) ?_ ?_
      · exact le_head (ms := [8, 9]) (by repeat (exact Out.refl _)) ⟨(by rfl), trivial⟩ ⟨(by rfl), (by rfl), trivial⟩ rfl rfl rfl rfl
      ·
        intro k hk
        refine awp_seq ?_
        refine awp_region 1 mixed (by kernel_rfl) ?_
        refine rg_q (q_lss rfl rfl) ?_
        refine rg_nil ?_
        refine aops_nil ?_
        change Awp _ _ _ _ _
        refine awp_seq ?_
        refine awp_cond rfl (fun hc8 => ?_) (fun hc8 => ?_)
        ·
          (try simp only [decide_eq_true_eq, decide_eq_false_iff_not, Bool.and_eq_true, Bool.or_eq_true, Bool.and_eq_false_iff, Bool.or_eq_false_iff, Bool.not_eq_true', Bool.not_eq_false', Bool.not_true, Bool.not_false, bif_and, bif_or, Bool.not_not, ne_eq, Decidable.not_not, not_true_eq_false, not_false_eq_true, Int.not_le, Int.not_lt] at hc8)
          have hlt : k < L.length := by omega
          obtain ⟨r, hx⟩ : ∃ r, L[k]? = some r := ⟨_, List.getElem?_eq_getElem hlt⟩
          have s1 := fdF_succ (f := min) (z := z.1) (los_at hx)
          have s2 := fdF_succ (f := max) (z := z.2) (his_at hx)
          have s3 := fdF_succ (f := max) (z := z.1) (los_at hx)
          have s4 := fdF_succ (f := min) (z := z.2) (his_at hx)
          refine awp_skip ?_
          change Awp _ _ _ _ _
          refine awp_seq ?_
          refine awp_block ?_
          refine awp_seq ?_
          refine awp_region 2 mixed (by kernel_rfl) ?_
          refine rg_q (q_indexAddr sl44 rfl rfl (by omega) (map_at (by omega) hx)) ?_
          refine rg_q (q_loadA (ds := [_, _]) sz49 rfl rfl rfl) ?_
          refine rg_nil ?_
          refine aops_alloc zr49 rfl rfl rfl ?_
          refine aops_store sz49 rfl rfl (by exact .inr ⟨_, rfl⟩) rfl rfl (by decide) rfl ?_
          refine aops_nil ?_
          change Awp _ _ _ _ _
          refine awp_seq ?_
          refine awp_region 11 mixed (by kernel_rfl) ?_
          refine rg_q (q_fieldAddr_ref fld49_0 rfl) ?_
          refine rg_q (q_load_ref sz3 rfl rfl rfl) ?_
          refine rg_q (q_fieldAddr_ref fld49_0 rfl) ?_
          refine rg_q (q_load_ref sz3 rfl rfl rfl) ?_
          refine rg_q (q_min rfl rfl) ?_
          refine rg_q (q_fieldAddr_ref fld49_1 rfl) ?_
          refine rg_q (q_load_ref sz3 rfl rfl rfl) ?_
          refine rg_q (q_fieldAddr_ref fld49_1 rfl) ?_
          refine rg_q (q_load_ref sz3 rfl rfl rfl) ?_
          refine rg_q (q_max rfl rfl) ?_
          refine rg_q (q_build (cs := [_, _]) pl49 zr49 rfl (.cons rfl (by exact .inl rfl) (.cons rfl (by exact .inl rfl) .nil)) ⟨⟨rfl, by decide⟩, ⟨rfl, by decide⟩, trivial⟩ rfl) ?_
          refine rg_nil ?_
          refine aops_store sz49 rfl rfl (by exact .inr ⟨_, rfl⟩) rfl rfl (by simp; done) rfl ?_
          refine aops_nil ?_
          change Awp _ _ _ _ _
          refine awp_region 11 mixed (by kernel_rfl) ?_
          refine rg_q (q_fieldAddr_ref fld49_0 rfl) ?_
          refine rg_q (q_load_ref sz3 rfl rfl rfl) ?_
          refine rg_q (q_fieldAddr_ref fld49_0 rfl) ?_
          refine rg_q (q_load_ref sz3 rfl rfl rfl) ?_
          refine rg_q (q_max rfl rfl) ?_
          refine rg_q (q_fieldAddr_ref fld49_1 rfl) ?_
          refine rg_q (q_load_ref sz3 rfl rfl rfl) ?_
          refine rg_q (q_fieldAddr_ref fld49_1 rfl) ?_
          refine rg_q (q_load_ref sz3 rfl rfl rfl) ?_
          refine rg_q (q_min rfl rfl) ?_
          refine rg_q (q_build (cs := [_, _]) pl49 zr49 rfl (.cons rfl (by exact .inl rfl) (.cons rfl (by exact .inl rfl) .nil)) ⟨⟨rfl, by decide⟩, ⟨rfl, by decide⟩, trivial⟩ rfl) ?_
          refine rg_nil ?_
          refine aops_store sz49 rfl rfl (by exact .inr ⟨_, rfl⟩) rfl rfl (by simp; done) rfl ?_
          refine aops_nil ?_
          change Awp _ _ _ _ _
          refine awp_region 2 mixed (by kernel_rfl) ?_
          refine rg_q (q_add rfl rfl (In64.mk (by omega) (by omega))) ?_
          refine rg_q (q_move (x := .d (.v _)) rfl) ?_
          refine rg_nil ?_
          refine aops_nil ?_
          refine ⟨k + 1, by omega, by omega, ?_⟩
          exact le_head (ms := [8, 9]) (by repeat (first | exact Out.head rfl rfl | (refine Out.put ?_ rfl) | (refine Out.site ?_ rfl))) ⟨(by rfl), trivial⟩ ⟨(by (show Site.box [_, _] = Site.box [_, _]; rw [s1, s2])), (by (show Site.box [_, _] = Site.box [_, _]; rw [s3, s4])), trivial⟩ rfl rfl rfl rfl
        ·
          (try simp only [decide_eq_true_eq, decide_eq_false_iff_not, Bool.and_eq_true, Bool.or_eq_true, Bool.and_eq_false_iff, Bool.or_eq_false_iff, Bool.not_eq_true', Bool.not_eq_false', Bool.not_true, Bool.not_false, bif_and, bif_or, Bool.not_not, ne_eq, Decidable.not_not, not_true_eq_false, not_false_eq_true, Int.not_le, Int.not_lt] at hc8)
          have hkl : k = L.length := by omega
          subst hkl
          rw [f1, f2, f3, f4]
          refine awp_exit ?_
          change Awp _ _ _ _ _
          refine awp_seq ?_
          refine awp_region 12 mixed (by kernel_rfl) ?_
          refine rg_q (q_fieldAddr_ref fld49_0 rfl) ?_
          refine rg_q (q_load_ref sz3 rfl rfl rfl) ?_
          refine rg_q (q_fieldAddr_ref fld49_1 rfl) ?_
          refine rg_q (q_load_ref sz3 rfl rfl rfl) ?_
          refine rg_q (q_sub rfl rfl (In64.mk (by omega) (by omega))) ?_
          refine rg_q (q_max rfl rfl) ?_
          refine rg_q (q_fieldAddr_ref fld49_1 rfl) ?_
          refine rg_q (q_load_ref sz3 rfl rfl rfl) ?_
          refine rg_q (q_fieldAddr_ref fld49_0 rfl) ?_
          refine rg_q (q_load_ref sz3 rfl rfl rfl) ?_
          refine rg_q (q_sub rfl rfl (In64.mk (by omega) (by omega))) ?_
          refine rg_q (q_build (cs := [_, _]) pl49 zr49 rfl (.cons rfl (by exact .inl rfl) (.cons rfl (by exact .inl rfl) .nil)) ⟨⟨rfl, by decide⟩, ⟨rfl, by decide⟩, trivial⟩ rfl) ?_
          refine rg_nil ?_
          refine aops_store sz49 rfl rfl (by exact .inr ⟨_, rfl⟩) rfl rfl (by decide) rfl ?_
          refine aops_q rfl (q_assign (x := .d (.v _)) rfl) ?_
          refine aops_nil ?_
          change Awp _ _ _ _ _
          refine awp_ret ?_
          refine ⟨_, (.cons (.cellA rfl rfl sz49 rfl) (.cons (.tmp (by exact .d _)) .nil)), ?_⟩
          rw [hz]; rfl

def arvE (a : Lar) (x : Dly) (p : Int × Int) : Int := if opnE a x ≠ 0 then opnE a x else plcE a p
def sprR (a : Lar) (x : Dly) (p : Int × Int) : (Int × Int) × Int := if arvE a x p ≠ 0 then ((0, 0), arvE a x p) else sprL (arrL a x p)
set_option maxRecDepth 100000 in
theorem spreadBad_p (a : Lar) (x : Dly) (p : Int × Int) (ho : opnE a x ≠ 0) : PC Tryz.prog 27 [.agg (larC a), .agg (dlyC x), .agg (shC p)] (.tup [.agg [.v (.int .i64 ((sprR a x p).1.1)), .v (.int .i64 ((sprR a x p).1.2))], .v (.int .i64 ((sprR a x p).2))]) := by
  have hz0 : arvE a x p = opnE a x := by unfold arvE; rw [if_pos ho]
  have hz : sprR a x p = ((0, 0), arvE a x p) := by unfold sprR; rw [if_pos (by rw [hz0]; exact ho)]
  refine pc_of_awp Tryz.func27 rfl Tryz.ntmps27 (rs := [.cell 6 49, .tmp 7]) Tryz.results27 (by simp) fun w0 => ?_
  refine awp_seq ?_
  refine awp_region 3 mixed (by kernel_rfl) ?_
  refine rg_q (q_box rfl (by exact .inr ⟨_, rfl⟩)) ?_
  refine rg_q (q_box rfl (by exact .inr ⟨_, rfl⟩)) ?_
  refine rg_q (q_box rfl (by exact .inr ⟨_, rfl⟩)) ?_
  refine rg_nil ?_
  refine aops_alloc zr49 rfl rfl rfl ?_
  refine aops_q rfl (q_assign (x := .d (.v _)) rfl) ?_
  refine aops_nil ?_
  change Awp _ _ _ _ _
  refine awp_seq ?_
  refine awp_region 6 mixed (by kernel_rfl) ?_
  refine rg_q (q_loadA (ds := [_, _, _, _, _, _]) sz26 rfl rfl rfl) ?_
  refine rg_q (q_loadA (ds := [_, _]) sz33 rfl rfl rfl) ?_
  refine rg_q (q_call en87 (.cons rfl (.cons rfl .nil)) rfl (openBad_p a x ho)) ?_
  refine rg_q (q_move (x := .d (.tup _)) rfl) ?_
  refine rg_q (q_extract rfl rfl) ?_
  refine rg_q (q_extract rfl rfl) ?_
  refine rg_nil ?_
  refine aops_alloc zr138 rfl rfl rfl ?_
  refine aops_store sz138 rfl rfl (by exact .inr ⟨_, rfl⟩) rfl rfl (by decide) rfl ?_
  refine aops_q rfl (q_assign (x := .d (.v _)) rfl) ?_
  refine aops_nil ?_
  change Awp _ _ _ _ _
  refine awp_seq ?_
  refine awp_seq ?_
  refine awp_region 2 mixed (by kernel_rfl) ?_
  refine rg_q (q_move (x := .d (.v _)) rfl) ?_
  refine rg_q (q_eql rfl rfl) ?_
  refine rg_nil ?_
  refine aops_nil ?_
  change Awp _ _ _ _ _
  refine awp_cond rfl (fun hc2 => ?_) (fun hc2 => ?_)
  ·
    exact absurd (of_decide_eq_true hc2) ho
  ·
    (try simp only [decide_eq_true_eq, decide_eq_false_iff_not, Bool.and_eq_true, Bool.or_eq_true, Bool.and_eq_false_iff, Bool.or_eq_false_iff, Bool.not_eq_true', Bool.not_eq_false', Bool.not_true, Bool.not_false, bif_and, bif_or, Bool.not_not, ne_eq, Decidable.not_not, not_true_eq_false, not_false_eq_true, Int.not_le, Int.not_lt] at hc2)
    refine awp_skip ?_
    change Awp _ _ _ _ _
    refine awp_seq ?_
    refine awp_seq ?_
    refine awp_region 2 mixed (by kernel_rfl) ?_
    refine rg_q (q_move (x := .d (.v _)) rfl) ?_
    refine rg_q (q_neq rfl rfl) ?_
    refine rg_nil ?_
    refine aops_nil ?_
    change Awp _ _ _ _ _
    refine awp_cond rfl (fun hc4 => ?_) (fun hc4 => ?_)
    ·
      (try simp only [decide_eq_true_eq, decide_eq_false_iff_not, Bool.and_eq_true, Bool.or_eq_true, Bool.and_eq_false_iff, Bool.or_eq_false_iff, Bool.not_eq_true', Bool.not_eq_false', Bool.not_true, Bool.not_false, bif_and, bif_or, Bool.not_not, ne_eq, Decidable.not_not, not_true_eq_false, not_false_eq_true, Int.not_le, Int.not_lt] at hc4)
      refine awp_seq ?_
      refine awp_region 2 mixed (by kernel_rfl) ?_
      refine rg_q (q_build (cs := [_, _]) pl49 zr49 rfl .nil trivial rfl) ?_
      refine rg_q (q_move (x := .d (.v _)) rfl) ?_
      refine rg_nil ?_
      refine aops_store sz49 rfl rfl (by exact .inr ⟨_, rfl⟩) rfl rfl (by decide) rfl ?_
      refine aops_q rfl (q_assign (x := .d (.v _)) rfl) ?_
      refine aops_nil ?_
      change Awp _ _ _ _ _
      refine awp_ret ?_
      refine ⟨_, (.cons (.cellA rfl rfl sz49 rfl) (.cons (.tmp (by exact .d _)) .nil)), ?_⟩
      rw [hz, hz0]; rfl
    ·
      exact absurd (of_decide_eq_false hc4) (fun h => h ho)
set_option maxRecDepth 100000 in
theorem spreadOk_p (a : Lar) (x : Dly) (p : Int × Int) (ho : opnE a x = 0) : PC Tryz.prog 27 [.agg (larC a), .agg (dlyC x), .agg (shC p)] (.tup [.agg [.v (.int .i64 ((sprR a x p).1.1)), .v (.int .i64 ((sprR a x p).1.2))], .v (.int .i64 ((sprR a x p).2))]) := by
  have hz0 : arvE a x p = plcE a p := by unfold arvE; rw [if_neg (fun h => h ho)]
  obtain ⟨h1, h2, h3⟩ := lop_ok ho
  have hla := (lar_ok h1).1
  obtain ⟨_, _, _, _, _, _, t1, t2⟩ := hla.md
  refine pc_of_awp Tryz.func27 rfl Tryz.ntmps27 (rs := [.cell 6 49, .tmp 7]) Tryz.results27 (by simp) fun w0 => ?_
  refine awp_seq ?_
  refine awp_region 3 mixed (by kernel_rfl) ?_
  refine rg_q (q_box rfl (by exact .inr ⟨_, rfl⟩)) ?_
  refine rg_q (q_box rfl (by exact .inr ⟨_, rfl⟩)) ?_
  refine rg_q (q_box rfl (by exact .inr ⟨_, rfl⟩)) ?_
  refine rg_nil ?_
  refine aops_alloc zr49 rfl rfl rfl ?_
  refine aops_q rfl (q_assign (x := .d (.v _)) rfl) ?_
  refine aops_nil ?_
  change Awp _ _ _ _ _
  refine awp_seq ?_
  refine awp_region 6 mixed (by kernel_rfl) ?_
  refine rg_q (q_loadA (ds := [_, _, _, _, _, _]) sz26 rfl rfl rfl) ?_
  refine rg_q (q_loadA (ds := [_, _]) sz33 rfl rfl rfl) ?_
  refine rg_q (q_call en87 (.cons rfl (.cons rfl .nil)) rfl (open_p a x ho)) ?_
  refine rg_q (q_move (x := .d (.tup _)) rfl) ?_
  refine rg_q (q_extract rfl rfl) ?_
  refine rg_q (q_extract rfl rfl) ?_
  refine rg_nil ?_
  refine aops_alloc zr138 rfl rfl rfl ?_
  refine aops_store sz138 rfl rfl (by exact .inr ⟨_, rfl⟩) rfl rfl (by decide) rfl ?_
  refine aops_q rfl (q_assign (x := .d (.v _)) rfl) ?_
  refine aops_nil ?_
  change Awp _ _ _ _ _
  refine awp_seq ?_
  refine awp_seq ?_
  refine awp_region 2 mixed (by kernel_rfl) ?_
  refine rg_q (q_move (x := .d (.v _)) rfl) ?_
  refine rg_q (q_eql rfl rfl) ?_
  refine rg_nil ?_
  refine aops_nil ?_
  change Awp _ _ _ _ _
  refine awp_cond rfl (fun hc2 => ?_) (fun hc2 => ?_)
  ·
    (try simp only [decide_eq_true_eq, decide_eq_false_iff_not, Bool.and_eq_true, Bool.or_eq_true, Bool.and_eq_false_iff, Bool.or_eq_false_iff, Bool.not_eq_true', Bool.not_eq_false', Bool.not_true, Bool.not_false, bif_and, bif_or, Bool.not_not, ne_eq, Decidable.not_not, not_true_eq_false, not_false_eq_true, Int.not_le, Int.not_lt] at hc2)
    refine awp_region 4 mixed (by kernel_rfl) ?_
    refine rg_q (q_loadA (ds := [_, _, _, _, _, _]) sz26 rfl rfl rfl) ?_
    refine rg_q (q_loadA (ds := [_, _]) sz28 rfl rfl rfl) ?_
    refine rg_q (q_call en81 (.cons rfl (.cons rfl .nil)) rfl (placeErr_p a p t1 t2)) ?_
    refine rg_q (q_assign (x := .d (.v _)) rfl) ?_
    refine rg_nil ?_
    refine aops_nil ?_
    change Awp _ _ _ _ _
    refine awp_seq ?_
    refine awp_seq ?_
    refine awp_region 2 mixed (by kernel_rfl) ?_
    refine rg_q (q_move (x := .d (.v _)) rfl) ?_
    refine rg_q (q_neq rfl rfl) ?_
    refine rg_nil ?_
    refine aops_nil ?_
    change Awp _ _ _ _ _
    refine awp_cond rfl (fun hc4 => ?_) (fun hc4 => ?_)
    ·
      (try simp only [decide_eq_true_eq, decide_eq_false_iff_not, Bool.and_eq_true, Bool.or_eq_true, Bool.and_eq_false_iff, Bool.or_eq_false_iff, Bool.not_eq_true', Bool.not_eq_false', Bool.not_true, Bool.not_false, bif_and, bif_or, Bool.not_not, ne_eq, Decidable.not_not, not_true_eq_false, not_false_eq_true, Int.not_le, Int.not_lt] at hc4)
      have hz : sprR a x p = ((0, 0), arvE a x p) := by unfold sprR; rw [if_pos (by rw [hz0]; exact hc4)]
      refine awp_seq ?_
      refine awp_region 2 mixed (by kernel_rfl) ?_
      refine rg_q (q_build (cs := [_, _]) pl49 zr49 rfl .nil trivial rfl) ?_
      refine rg_q (q_move (x := .d (.v _)) rfl) ?_
      refine rg_nil ?_
      refine aops_store sz49 rfl rfl (by exact .inr ⟨_, rfl⟩) rfl rfl (by decide) rfl ?_
      refine aops_q rfl (q_assign (x := .d (.v _)) rfl) ?_
      refine aops_nil ?_
      change Awp _ _ _ _ _
      refine awp_ret ?_
      refine ⟨_, (.cons (.cellA rfl rfl sz49 rfl) (.cons (.tmp (by exact .d _)) .nil)), ?_⟩
      rw [hz, hz0]; rfl
    ·
      (try simp only [decide_eq_true_eq, decide_eq_false_iff_not, Bool.and_eq_true, Bool.or_eq_true, Bool.and_eq_false_iff, Bool.or_eq_false_iff, Bool.not_eq_true', Bool.not_eq_false', Bool.not_true, Bool.not_false, bif_and, bif_or, Bool.not_not, ne_eq, Decidable.not_not, not_true_eq_false, not_false_eq_true, Int.not_le, Int.not_lt] at hc4)
      have hp : plcE a p = 0 := hc4
      have hz : sprR a x p = sprL (arrL a x p) := by unfold sprR; rw [if_neg (by rw [hz0, hp]; simp)]
      refine awp_skip ?_
      change Awp _ _ _ _ _
      refine awp_seq ?_
      refine awp_region 5 mixed (by kernel_rfl) ?_
      refine rg_q (q_load_refA (ds := [_, _, _, _, _, _, _, _]) sz138 rfl rfl rfl rfl) ?_
      refine rg_q (q_loadA (ds := [_, _]) sz28 rfl rfl rfl) ?_
      refine rg_q (q_call en89 (.cons rfl (.cons rfl .nil)) rfl (bspread_p a x p ho hp)) ?_
      refine rg_q (q_extract rfl rfl) ?_
      refine rg_q (q_extract rfl rfl) ?_
      refine rg_nil ?_
      refine aops_store sz49 rfl rfl (by exact .inr ⟨_, rfl⟩) rfl rfl (by decide) rfl ?_
      refine aops_q rfl (q_assign (x := .d (.v _)) rfl) ?_
      refine aops_nil ?_
      change Awp _ _ _ _ _
      refine awp_ret ?_
      refine ⟨_, (.cons (.cellA rfl rfl sz49 rfl) (.cons (.tmp (by exact .d _)) .nil)), ?_⟩
      rw [hz]; rfl
  ·
    simp at hc2

theorem spread_p (a : Lar) (x : Dly) (p : Int × Int) : PC Tryz.prog 27 [.agg (larC a), .agg (dlyC x), .agg (shC p)] (.tup [.agg [.v (.int .i64 ((sprR a x p).1.1)), .v (.int .i64 ((sprR a x p).1.2))], .v (.int .i64 ((sprR a x p).2))]) := by
  by_cases h : opnE a x = 0
  · exact spreadOk_p a x p h
  · exact spreadBad_p a x p h
end Go.Proofs.YtgeieocphgnipaaGreatDoor.Am.M
