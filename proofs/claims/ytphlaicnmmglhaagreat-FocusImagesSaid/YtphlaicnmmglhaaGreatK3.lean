/- Contracts over the abstract machine: package ray: modes and ways. Conditions: none. -/
import Derived.Test.YtphlaicnmmglhaaGreatK2
set_option linter.unusedVariables false
set_option linter.unusedSimpArgs false
-- mini
namespace Go.Proofs.YtphlaicnmmglhaaGreat.Am.M
open Go

structure Md where
  w : Int
  m : Int
  k : Int
  t : Int
def mdC (x : Md) : List D := [.v (.int .i64 x.w), .v (.int .i64 x.m), .v (.int .i64 x.k), .v (.int .i64 x.t)]
def speedE (v : Int) : Int := mustI (inR 500 v 10000) 2
def modeE (m : Md) : Int := firstE [speedE m.w, speedE m.m, mustI (inR 0 m.k 4 && inR 2 m.t 20000) 2]
def spotB (p : Int × Int) : Bool := inR (-100000) p.1 100000 && inR (-100000) p.2 100000
def spotE (p : Int × Int) : Int := mustI (spotB p) 2
theorem must_zero {b : Bool} {e : Int} (he : e ≠ 0) : mustI b e = 0 ↔ b = true := by unfold mustI; split <;> simp_all
theorem first_zero : ∀ {l : List Int}, firstE l = 0 ↔ ∀ x ∈ l, x = 0
  | [] => by simp [firstE]
  | x :: xs => by
    unfold firstE
    by_cases h : x = 0
    · rw [if_pos h, first_zero]; simp [h]
    · rw [if_neg h]; simp [h]
structure MdOk (m : Md) : Prop where
  w1 : 500 ≤ m.w
  w2 : m.w ≤ 10000
  m1 : 500 ≤ m.m
  m2 : m.m ≤ 10000
  k1 : 0 ≤ m.k
  k2 : m.k ≤ 4
  t1 : 2 ≤ m.t
  t2 : m.t ≤ 20000
theorem mode_ok {m : Md} : modeE m = 0 ↔ MdOk m := by
  unfold modeE speedE
  rw [first_zero]
  simp only [List.mem_cons, List.not_mem_nil, or_false, forall_eq_or_imp, forall_eq, must_zero (show (2 : Int) ≠ 0 by omega), inR, Bool.and_eq_true, decide_eq_true_eq]
  exact ⟨fun ⟨⟨a, b⟩, ⟨c, d⟩, ⟨e, f⟩, g, h⟩ => ⟨a, b, c, d, e, f, g, h⟩, fun ⟨a, b, c, d, e, f, g, h⟩ => ⟨⟨a, b⟩, ⟨c, d⟩, ⟨e, f⟩, g, h⟩⟩
theorem spot_ok {p : Int × Int} : spotE p = 0 ↔ (-100000 ≤ p.1 ∧ p.1 ≤ 100000) ∧ -100000 ≤ p.2 ∧ p.2 ≤ 100000 := by
  unfold spotE spotB
  rw [must_zero (by omega)]
  simp [inR]
set_option maxRecDepth 100000 in
theorem isThick_p (n : Int) : PC Tryz.prog 187 [.v (.int .i64 (n))] (.v (.bool (inR 2 n 20000))) := by
 refine pc_of_awp Tryz.func187 rfl Tryz.ntmps187 (rs := [.tmp 2]) Tryz.results187 (by simp) fun w0 => ?_
 refine awp_seq ?_
 refine awp_region 1 mixed (by kernel_rfl) ?_
 refine rg_q (q_assign (x := .d (.v _)) rfl) ?_
 refine rg_nil (aops_nil ?_)
 change Awp _ _ _ _ _
 refine awp_seq ?_
 refine awp_region 3 mixed (by kernel_rfl) ?_
 refine rg_q (q_move (x := .d (.v _)) rfl) ?_
 refine rg_q (q_call en186 (.cons rfl (.cons rfl (.cons rfl .nil))) rfl (rwithin_p _ _ _)) ?_
 refine rg_q (q_assign (x := .d (.v _)) rfl) ?_
 refine rg_nil (aops_nil ?_)
 change Awp _ _ _ _ _
 refine awp_ret ?_
 refine ⟨_, (.cons (.tmp (by exact .d _)) .nil), ?_⟩
 rfl
set_option maxRecDepth 100000 in
theorem speedErr_p (v : Int) : PC Tryz.prog 184 [.v (.int .i64 (v))] (.v (.int .i64 (speedE v))) := by
 refine pc_of_awp Tryz.func184 rfl Tryz.ntmps184 (rs := [.tmp 2]) Tryz.results184 (by simp) fun w0 => ?_
 refine awp_seq ?_
 refine awp_region 1 mixed (by kernel_rfl) ?_
 refine rg_q (q_assign (x := .d (.v _)) rfl) ?_
 refine rg_nil (aops_nil ?_)
 change Awp _ _ _ _ _
 refine awp_seq ?_
 refine awp_region 4 mixed (by kernel_rfl) ?_
 refine rg_q (q_move (x := .d (.v _)) rfl) ?_
 refine rg_q (q_call en186 (.cons rfl (.cons rfl (.cons rfl .nil))) rfl (rwithin_p _ _ _)) ?_
 refine rg_q (q_call en185 (.cons rfl (.cons rfl .nil)) rfl (must_p _ _)) ?_
 refine rg_q (q_assign (x := .d (.v _)) rfl) ?_
 refine rg_nil (aops_nil ?_)
 change Awp _ _ _ _ _
 refine awp_ret ?_
 refine ⟨_, (.cons (.tmp (by exact .d _)) .nil), ?_⟩
 rfl
set_option maxRecDepth 100000 in
theorem checkMode_p (m : Md) : PC Tryz.prog 122 [.agg (mdC m)] (.v (.int .i64 (modeE m))) := by
 refine pc_of_awp Tryz.func122 rfl Tryz.ntmps122 (rs := [.tmp 2]) Tryz.results122 (by simp) fun w0 => ?_
 refine awp_seq ?_
 refine awp_region 2 mixed (by kernel_rfl) ?_
 refine rg_q (q_box rfl (by exact .inr ⟨_, rfl⟩)) ?_
 refine rg_q (q_assign (x := .d (.v _)) rfl) ?_
 refine rg_nil (aops_nil ?_)
 change Awp _ _ _ _ _
 refine awp_seq ?_
 refine awp_region 18 mixed (by kernel_rfl) ?_
 refine rg_q (q_fieldAddr fld24_0 rfl) (rg_q (q_load sz3 rfl rfl) ?_)
 refine rg_q (q_call en184 (.cons rfl .nil) rfl (speedErr_p _)) ?_
 refine rg_q (q_fieldAddr fld24_1 rfl) (rg_q (q_load sz3 rfl rfl) ?_)
 refine rg_q (q_call en184 (.cons rfl .nil) rfl (speedErr_p _)) ?_
 refine rg_q (q_fieldAddr fld24_2 rfl) (rg_q (q_load sz3 rfl rfl) ?_)
 refine rg_q (q_call en186 (.cons rfl (.cons rfl (.cons rfl .nil))) rfl (rwithin_p _ _ _)) ?_
 refine rg_q (q_move (x := .d (.v _)) rfl) ?_
 refine rg_g rfl rfl (fun hG => (q_fieldAddr fld24_3 rfl)) ?_
 refine rg_g rfl rfl (fun hG => (q_load sz3 rfl rfl)) ?_
 refine rg_g rfl rfl (fun hG => (q_call en187 (.cons rfl .nil) rfl (isThick_p _))) ?_
 refine rg_pick rfl rfl rfl rfl rfl rfl ?_
 refine rg_q (q_call en185 (.cons rfl (.cons rfl .nil)) rfl (must_p _ _)) ?_
 refine rg_q (q_buildSlice sl282 zr40 rfl rfl (by decide) (.cons rfl (by exact .inl rfl) (.cons rfl (by exact .inl rfl) (.cons rfl (by exact .inl rfl) .nil))) ⟨rfl, rfl, rfl, rfl, rfl, rfl, trivial⟩ rfl (by decide) rfl) ?_
 refine rg_q (q_call en183 (.cons rfl .nil) rfl (rfirst_p [_, _, _])) ?_
 refine rg_q (q_assign (x := .d (.v _)) rfl) ?_
 refine rg_nil (aops_nil ?_)
 change Awp _ _ _ _ _
 refine awp_ret ?_
 refine ⟨_, (.cons (.tmp (by exact .d _)) .nil), ?_⟩
 simp only [bif_and]; rfl
set_option maxRecDepth 100000 in
theorem rspotErr_p (p : Int × Int) : PC Tryz.prog 278 [.agg (shC p)] (.v (.int .i64 (spotE p))) := by
 refine pc_of_awp Tryz.func278 rfl Tryz.ntmps278 (rs := [.tmp 2]) Tryz.results278 (by simp) fun w0 => ?_
 refine awp_seq ?_
 refine awp_region 2 mixed (by kernel_rfl) ?_
 refine rg_q (q_box rfl (by exact .inr ⟨_, rfl⟩)) ?_
 refine rg_q (q_assign (x := .d (.v _)) rfl) ?_
 refine rg_nil (aops_nil ?_)
 change Awp _ _ _ _ _
 refine awp_seq ?_
 refine awp_region 10 mixed (by kernel_rfl) ?_
 refine rg_q (q_fieldAddr fld33_0 rfl) (rg_q (q_load sz3 rfl rfl) ?_)
 refine rg_q (q_call en291 (.cons rfl (.cons rfl .nil)) rfl (rsmall_p _ _ (by omega) (by omega))) ?_
 refine rg_q (q_move (x := .d (.v _)) rfl) ?_
 refine rg_g rfl rfl (fun hG => (q_fieldAddr fld33_1 rfl)) ?_
 refine rg_g rfl rfl (fun hG => (q_load sz3 rfl rfl)) ?_
 refine rg_g rfl rfl (fun hG => (q_call en291 (.cons rfl (.cons rfl .nil)) rfl (rsmall_p _ _ (by omega) (by omega)))) ?_
 refine rg_pick rfl rfl rfl rfl rfl rfl ?_
 refine rg_q (q_call en185 (.cons rfl (.cons rfl .nil)) rfl (must_p _ _)) ?_
 refine rg_q (q_assign (x := .d (.v _)) rfl) ?_
 refine rg_nil (aops_nil ?_)
 change Awp _ _ _ _ _
 refine awp_ret ?_
 refine ⟨_, (.cons (.tmp (by exact .d _)) .nil), ?_⟩
 simp only [bif_and]; rfl

def unfI (m : Md) (z : Int) : Int := if m.k.tmod 2 = 1 then m.k * m.t + (m.t - z) else m.k * m.t + z
theorem kt_bounds {m : Md} (h : MdOk m) : 0 ≤ m.k * m.t ∧ m.k * m.t ≤ 80000 := by
  obtain ⟨_, _, _, _, k1, k2, t1, t2⟩ := h
  have := mulb (a := m.k) (b := m.t) (A := 4) (B := 20000) (by omega) (by omega) (by omega) (by omega)
  exact ⟨Int.mul_nonneg k1 (by omega), by omega⟩
set_option maxRecDepth 100000 in
theorem unfolded_p (m : Md) (z : Int) (hm : MdOk m) (h1 : -100000 ≤ z) (h2 : z ≤ 100000) : PC Tryz.prog 279 [.agg (mdC m), .v (.int .i64 (z))] (.v (.int .i64 (unfI m z))) := by
 obtain ⟨b1, b2⟩ := kt_bounds hm
 obtain ⟨w1, w2, m1, m2, k1, k2, t1, t2⟩ := hm
 refine pc_of_awp Tryz.func279 rfl Tryz.ntmps279 (rs := [.tmp 4]) Tryz.results279 (by simp) fun w0 => ?_
 refine awp_seq ?_
 refine awp_region 2 mixed (by kernel_rfl) ?_
 refine rg_q (q_box rfl (by exact .inr ⟨_, rfl⟩)) ?_
 refine rg_q (q_assign (x := .d (.v _)) rfl) ?_
 refine rg_nil (aops_nil ?_)
 change Awp _ _ _ _ _
 refine awp_seq ?_
 refine awp_seq ?_
 refine awp_region 4 mixed (by kernel_rfl) ?_
 refine rg_q (q_fieldAddr fld24_2 rfl) (rg_q (q_load sz3 rfl rfl) ?_)
 refine rg_q (q_rem rfl rfl (by omega)) ?_
 refine rg_q (q_eql rfl rfl) ?_
 refine rg_nil (aops_nil ?_)
 change Awp _ _ _ _ _
 refine awp_cond rfl (fun hc1 => ?_) (fun hc1 => ?_)
 ·
  (try simp only [nb, ne_eq] at hc1)
  have hz : unfI m z = m.k * m.t + (m.t - z) := by unfold unfI; rw [if_pos hc1]
  refine awp_region 5 mixed (by kernel_rfl) ?_
  refine rg_q (q_fieldAddr fld24_3 rfl) (rg_q (q_load sz3 rfl rfl) (rg_q (q_move (x := .d (.v _)) rfl) ?_))
  refine rg_q (q_sub rfl rfl (In64.mk (by omega) (by omega))) ?_
  refine rg_q (q_assign (x := .d (.v _)) rfl) ?_
  refine rg_nil (aops_nil ?_)
  change Awp _ _ _ _ _
  refine awp_seq ?_
  refine awp_region 8 mixed (by kernel_rfl) ?_
  refine rg_q (q_fieldAddr fld24_2 rfl) (rg_q (q_load sz3 rfl rfl) (rg_q (q_fieldAddr fld24_3 rfl) (rg_q (q_load sz3 rfl rfl) ?_)))
  refine rg_q (q_mul rfl rfl (In64.mk (by omega) (by omega))) ?_
  refine rg_q (q_move (x := .d (.v _)) rfl) ?_
  refine rg_q (q_add rfl rfl (In64.mk (by omega) (by omega))) ?_
  refine rg_q (q_assign (x := .d (.v _)) rfl) ?_
  refine rg_nil (aops_nil ?_)
  change Awp _ _ _ _ _
  refine awp_ret ?_
  refine ⟨_, (.cons (.tmp (by exact .d _)) .nil), ?_⟩
  rw [hz]; rfl
 ·
  (try simp only [nb, ne_eq] at hc1)
  have hz : unfI m z = m.k * m.t + z := by unfold unfI; rw [if_neg (by simpa using hc1)]
  refine awp_skip ?_
  change Awp _ _ _ _ _
  refine awp_seq ?_
  refine awp_region 8 mixed (by kernel_rfl) ?_
  refine rg_q (q_fieldAddr fld24_2 rfl) (rg_q (q_load sz3 rfl rfl) (rg_q (q_fieldAddr fld24_3 rfl) (rg_q (q_load sz3 rfl rfl) ?_)))
  refine rg_q (q_mul rfl rfl (In64.mk (by omega) (by omega))) ?_
  refine rg_q (q_move (x := .d (.v _)) rfl) ?_
  refine rg_q (q_add rfl rfl (In64.mk (by omega) (by omega))) ?_
  refine rg_q (q_assign (x := .d (.v _)) rfl) ?_
  refine rg_nil (aops_nil ?_)
  change Awp _ _ _ _ _
  refine awp_ret ?_
  refine ⟨_, (.cons (.tmp (by exact .d _)) .nil), ?_⟩
  rw [hz]; rfl

def wayE (m : Md) (a b : Int × Int) : Int := firstE [spotE a, spotE b, mustI (decide (a.2 < 0)) 15, mustI (inR 1 b.2 (m.t - 1)) 22]
def crs0 : Crs := ⟨0, 0, 0, 0, 0, 0⟩
def wayI (m : Md) (a b : Int × Int) : Crs × Int := if wayE m a b ≠ 0 then (crs0, wayE m a b) else if 100000 < unfI m b.2 then (crs0, 8) else (⟨a.1, -a.2, m.w, b.1, unfI m b.2, m.m⟩, 0)
theorem wayE_ok {m : Md} {a b : Int × Int} (h : wayE m a b = 0) : ((-100000 ≤ a.1 ∧ a.1 ≤ 100000) ∧ -100000 ≤ a.2 ∧ a.2 ≤ 100000) ∧ ((-100000 ≤ b.1 ∧ b.1 ≤ 100000) ∧ -100000 ≤ b.2 ∧ b.2 ≤ 100000) ∧ a.2 < 0 ∧ 1 ≤ b.2 ∧ b.2 ≤ m.t - 1 := by
  unfold wayE at h
  rw [first_zero] at h
  simp only [List.mem_cons, List.not_mem_nil, or_false, forall_eq_or_imp, forall_eq, must_zero (show (15 : Int) ≠ 0 by omega), must_zero (show (22 : Int) ≠ 0 by omega), spot_ok, inR, Bool.and_eq_true, decide_eq_true_eq] at h
  obtain ⟨h1, h2, h3, h4⟩ := h
  exact ⟨h1, h2, h3, h4⟩
theorem unf_pos {m : Md} (hm : MdOk m) {z : Int} (h1 : 1 ≤ z) (h2 : z ≤ m.t - 1) : 1 ≤ unfI m z ∧ unfI m z ≤ 100000 := by
  obtain ⟨b1, b2⟩ := kt_bounds hm
  obtain ⟨w1, w2, m1, m2, k1, k2, t1, t2⟩ := hm
  unfold unfI
  split <;> omega
theorem way_law {m : Md} (hm : MdOk m) {a b : Int × Int} (h : wayE m a b = 0) : wayI m a b = (⟨a.1, -a.2, m.w, b.1, unfI m b.2, m.m⟩, 0) ∧ CrsOk (wayI m a b).1 := by
  obtain ⟨⟨h1, h2⟩, ⟨h3, h4⟩, h5, h6, h7⟩ := wayE_ok h
  have hu := unf_pos hm h6 h7
  have e : wayI m a b = (⟨a.1, -a.2, m.w, b.1, unfI m b.2, m.m⟩, 0) := by unfold wayI; rw [if_neg (by rw [h]; simp), if_neg (by omega)]
  obtain ⟨w1, w2, m1, m2, k1, k2, t1, t2⟩ := hm
  rw [e]
  exact ⟨rfl, ⟨by simp only; omega, by simp only; omega, by simp only; omega, by simp only; omega, by simp only; omega, by simp only; omega, by simp only; omega, by simp only; omega, w1, w2, m1, m2⟩⟩
set_option maxRecDepth 100000 in
theorem way_p (m : Md) (a b : Int × Int) (hm : MdOk m) : PC Tryz.prog 268 [.agg (mdC m), .agg (shC a), .agg (shC b)] (.tup [.agg (crsC ((wayI m a b).1)), .v (.int .i64 ((wayI m a b).2))]) := by
 have hm0 := hm
 obtain ⟨w1, w2, m1, m2, k1, k2, t1, t2⟩ := hm0
 refine pc_of_awp Tryz.func268 rfl Tryz.ntmps268 (rs := [.cell 6 366, .tmp 7]) Tryz.results268 (by simp) fun w0 => ?_
 refine awp_seq ?_
 refine awp_region 3 mixed (by kernel_rfl) ?_
 refine rg_q (q_box rfl (by exact .inr ⟨_, rfl⟩)) ?_
 refine rg_q (q_box rfl (by exact .inr ⟨_, rfl⟩)) ?_
 refine rg_q (q_box rfl (by exact .inr ⟨_, rfl⟩)) ?_
 refine rg_nil ?_
 refine aops_alloc zr366 rfl rfl rfl ?_
 refine aops_q rfl (q_assign (x := .d (.v _)) rfl) ?_
 refine aops_nil ?_
 change Awp _ _ _ _ _
 refine awp_seq ?_
 refine awp_region 18 mixed (by kernel_rfl) ?_
 refine rg_q (q_loadA (ds := [_, _]) sz33 rfl rfl rfl) ?_
 refine rg_q (q_call en278 (.cons rfl .nil) rfl (rspotErr_p _)) ?_
 refine rg_q (q_loadA (ds := [_, _]) sz33 rfl rfl rfl) ?_
 refine rg_q (q_call en278 (.cons rfl .nil) rfl (rspotErr_p _)) ?_
 refine rg_q (q_fieldAddr fld33_1 rfl) (rg_q (q_load sz3 rfl rfl) (rg_q (q_lss rfl rfl) ?_))
 refine rg_q (q_call en185 (.cons rfl (.cons rfl .nil)) rfl (must_p _ _)) ?_
 refine rg_q (q_fieldAddr fld33_1 rfl) (rg_q (q_load sz3 rfl rfl) (rg_q (q_fieldAddr fld24_3 rfl) (rg_q (q_load sz3 rfl rfl) ?_)))
 refine rg_q (q_sub rfl rfl (In64.mk (by omega) (by omega))) ?_
 refine rg_q (q_call en186 (.cons rfl (.cons rfl (.cons rfl .nil))) rfl (rwithin_p _ _ _)) ?_
 refine rg_q (q_call en185 (.cons rfl (.cons rfl .nil)) rfl (must_p _ _)) ?_
 refine rg_q (q_buildSlice sl282 zr40 rfl rfl (by decide) (.cons rfl (by exact .inl rfl) (.cons rfl (by exact .inl rfl) (.cons rfl (by exact .inl rfl) (.cons rfl (by exact .inl rfl) .nil)))) ⟨rfl, rfl, rfl, rfl, rfl, rfl, rfl, rfl, trivial⟩ rfl (by decide) rfl) ?_
 refine rg_q (q_call en183 (.cons rfl .nil) rfl (rfirst_p [_, _, _, _])) ?_
 refine rg_q (q_assign (x := .d (.v _)) rfl) ?_
 refine rg_nil (aops_nil ?_)
 change Awp _ _ _ _ _
 refine awp_seq ?_
 refine awp_seq ?_
 refine awp_region 2 mixed (by kernel_rfl) ?_
 refine rg_q (q_move (x := .d (.v _)) rfl) (rg_q (q_neq rfl rfl) ?_)
 refine rg_nil (aops_nil ?_)
 change Awp _ _ _ _ _
 refine awp_cond rfl (fun hc2 => ?_) (fun hc2 => ?_)
 ·
  (try simp only [nb, ne_eq] at hc2)
  have he : wayE m a b ≠ 0 := hc2
  have hz : wayI m a b = (crs0, wayE m a b) := by unfold wayI; rw [if_pos he]
  refine awp_seq ?_
  refine awp_region 2 mixed (by kernel_rfl) ?_
  refine rg_q (q_build (cs := [_, _, _, _, _, _]) pl366 zr366 rfl .nil trivial rfl) ?_
  refine rg_q (q_move (x := .d (.v _)) rfl) ?_
  refine rg_nil ?_
  refine aops_store sz366 rfl rfl (by exact .inr ⟨_, rfl⟩) rfl rfl (by decide) rfl ?_
  refine aops_q rfl (q_assign (x := .d (.v _)) rfl) ?_
  refine aops_nil ?_
  change Awp _ _ _ _ _
  refine awp_ret ?_
  refine ⟨_, (.cons (.cellA rfl rfl sz366 rfl) (.cons (.tmp (by exact .d _)) .nil)), ?_⟩
  rw [hz]; rfl
 ·
  (try simp only [nb, ne_eq] at hc2)
  have he : wayE m a b = 0 := hc2
  obtain ⟨⟨g1, g2⟩, ⟨g3, g4⟩, g5, g6, g7⟩ := wayE_ok he
  have hz := (way_law hm he).1
  have hu := unf_pos hm g6 g7
  refine awp_skip ?_
  change Awp _ _ _ _ _
  refine awp_seq ?_
  refine awp_region 5 mixed (by kernel_rfl) ?_
  refine rg_q (q_loadA (ds := [_, _, _, _]) sz24 rfl rfl rfl) ?_
  refine rg_q (q_fieldAddr fld33_1 rfl) (rg_q (q_load sz3 rfl rfl) ?_)
  refine rg_q (q_call en279 (.cons rfl (.cons rfl .nil)) rfl (unfolded_p _ _ hm (by omega) (by omega))) ?_
  refine rg_q (q_assign (x := .d (.v _)) rfl) ?_
  refine rg_nil (aops_nil ?_)
  change Awp _ _ _ _ _
  refine awp_seq ?_
  refine awp_seq ?_
  refine awp_region 2 mixed (by kernel_rfl) ?_
  refine rg_q (q_move (x := .d (.v _)) rfl) (rg_q (q_gtr rfl rfl) ?_)
  refine rg_nil (aops_nil ?_)
  change Awp _ _ _ _ _
  refine awp_cond rfl (fun hc5 => ?_) (fun hc5 => ?_)
  ·
   exfalso; (try simp only [nb, ne_eq] at hc5); omega
  ·
   (try simp only [nb, ne_eq] at hc5)
   refine awp_skip ?_
   change Awp _ _ _ _ _
   refine awp_seq ?_
   refine awp_region 14 mixed (by kernel_rfl) ?_
   refine rg_q (q_fieldAddr fld33_0 rfl) (rg_q (q_load sz3 rfl rfl) (rg_q (q_fieldAddr fld33_1 rfl) (rg_q (q_load sz3 rfl rfl) ?_)))
   refine rg_q (q_neg rfl (In64.mk (by omega) (by omega))) ?_
   refine rg_q (q_fieldAddr fld24_0 rfl) (rg_q (q_load sz3 rfl rfl) (rg_q (q_fieldAddr fld33_0 rfl) (rg_q (q_load sz3 rfl rfl) (rg_q (q_move (x := .d (.v _)) rfl) (rg_q (q_fieldAddr fld24_1 rfl) ?_)))))
   refine rg_q (q_load sz3 rfl rfl) ?_
   refine rg_q (q_build (cs := [_, _, _, _, _, _]) pl364 zr364 rfl (.cons rfl (by exact .inl rfl) (.cons rfl (by exact .inl rfl) (.cons rfl (by exact .inl rfl) (.cons rfl (by exact .inl rfl) (.cons rfl (by exact .inl rfl) (.cons rfl (by exact .inl rfl) .nil)))))) ⟨⟨rfl, by decide⟩, ⟨rfl, by decide⟩, ⟨rfl, by decide⟩, ⟨rfl, by decide⟩, ⟨rfl, by decide⟩, ⟨rfl, by decide⟩, trivial⟩ rfl) ?_
   refine rg_q (q_build (cs := [_, _, _, _, _, _]) pl366 zr366 rfl (.cons rfl (by exact .inr ⟨_, rfl⟩) .nil) ⟨⟨rfl, by decide⟩, trivial⟩ rfl) ?_
   refine rg_nil ?_
   refine aops_store sz366 rfl rfl (by exact .inr ⟨_, rfl⟩) rfl rfl (by decide) rfl ?_
   refine aops_q rfl (q_assign (x := .d (.v _)) rfl) ?_
   refine aops_nil ?_
   change Awp _ _ _ _ _
   refine awp_ret ?_
   refine ⟨_, (.cons (.cellA rfl rfl sz366 rfl) (.cons (.tmp (by exact .d _)) .nil)), ?_⟩
   rw [hz]; rfl

def opnI (m : Md) (a b : Int × Int) : Crs × Int := if modeE m ≠ 0 then (crs0, modeE m) else wayI m a b
theorem opn_ok {m : Md} {a b : Int × Int} (h : (opnI m a b).2 = 0) : MdOk m ∧ wayE m a b = 0 ∧ opnI m a b = wayI m a b := by
  unfold opnI at h ⊢
  by_cases h1 : modeE m ≠ 0
  · rw [if_pos h1] at h; exact absurd h h1
  · rw [if_neg h1] at h ⊢
    have hm := mode_ok.1 (Decidable.not_not.1 h1)
    refine ⟨hm, ?_, rfl⟩
    unfold wayI at h
    by_cases h2 : wayE m a b ≠ 0
    · rw [if_pos h2] at h; exact absurd h h2
    · exact Decidable.not_not.1 h2
set_option maxRecDepth 100000 in
theorem ropen_p (m : Md) (a b : Int × Int) : PC Tryz.prog 301 [.agg (mdC m), .agg (shC a), .agg (shC b)] (.tup [.agg (crsC ((opnI m a b).1)), .v (.int .i64 ((opnI m a b).2))]) := by
 refine pc_of_awp Tryz.func301 rfl Tryz.ntmps301 (rs := [.cell 6 366, .tmp 7]) Tryz.results301 (by simp) fun w0 => ?_
 refine awp_seq ?_
 refine awp_region 3 mixed (by kernel_rfl) ?_
 refine rg_q (q_box rfl (by exact .inr ⟨_, rfl⟩)) ?_
 refine rg_q (q_box rfl (by exact .inr ⟨_, rfl⟩)) ?_
 refine rg_q (q_box rfl (by exact .inr ⟨_, rfl⟩)) ?_
 refine rg_nil ?_
 refine aops_alloc zr366 rfl rfl rfl ?_
 refine aops_q rfl (q_assign (x := .d (.v _)) rfl) ?_
 refine aops_nil ?_
 change Awp _ _ _ _ _
 refine awp_seq ?_
 refine awp_seq ?_
 refine awp_region 3 mixed (by kernel_rfl) ?_
 refine rg_q (q_loadA (ds := [_, _, _, _]) sz24 rfl rfl rfl) ?_
 refine rg_q (q_call en122 (.cons rfl .nil) rfl (checkMode_p _)) ?_
 refine rg_q (q_assign (x := .d (.v _)) rfl) ?_
 refine rg_nil (aops_nil ?_)
 change Awp _ _ _ _ _
 refine awp_seq ?_
 refine awp_region 2 mixed (by kernel_rfl) ?_
 refine rg_q (q_move (x := .d (.v _)) rfl) (rg_q (q_neq rfl rfl) ?_)
 refine rg_nil (aops_nil ?_)
 change Awp _ _ _ _ _
 refine awp_cond rfl (fun hc2 => ?_) (fun hc2 => ?_)
 ·
  (try simp only [nb, ne_eq] at hc2)
  have hz : opnI m a b = (crs0, modeE m) := by unfold opnI; rw [if_pos hc2]
  refine awp_seq ?_
  refine awp_region 2 mixed (by kernel_rfl) ?_
  refine rg_q (q_build (cs := [_, _, _, _, _, _]) pl366 zr366 rfl .nil trivial rfl) ?_
  refine rg_q (q_move (x := .d (.v _)) rfl) ?_
  refine rg_nil ?_
  refine aops_store sz366 rfl rfl (by exact .inr ⟨_, rfl⟩) rfl rfl (by decide) rfl ?_
  refine aops_q rfl (q_assign (x := .d (.v _)) rfl) ?_
  refine aops_nil ?_
  change Awp _ _ _ _ _
  refine awp_ret ?_
  refine ⟨_, (.cons (.cellA rfl rfl sz366 rfl) (.cons (.tmp (by exact .d _)) .nil)), ?_⟩
  rw [hz]; rfl
 ·
  (try simp only [nb, ne_eq] at hc2)
  have hm : MdOk m := mode_ok.1 (by simpa using hc2)
  have hz : opnI m a b = wayI m a b := by unfold opnI; rw [if_neg (by simpa using hc2)]
  refine awp_skip ?_
  change Awp _ _ _ _ _
  refine awp_seq ?_
  refine awp_region 6 mixed (by kernel_rfl) ?_
  refine rg_q (q_loadA (ds := [_, _, _, _]) sz24 rfl rfl rfl) ?_
  refine rg_q (q_loadA (ds := [_, _]) sz33 rfl rfl rfl) ?_
  refine rg_q (q_loadA (ds := [_, _]) sz33 rfl rfl rfl) ?_
  refine rg_q (q_call en268 (.cons rfl (.cons rfl (.cons rfl .nil))) rfl (way_p _ _ _ hm)) ?_
  refine rg_q (q_extract rfl rfl) (rg_q (q_extract rfl rfl) ?_)
  refine rg_nil ?_
  refine aops_store sz366 rfl rfl (by exact .inr ⟨_, rfl⟩) rfl rfl (by decide) rfl ?_
  refine aops_q rfl (q_assign (x := .d (.v _)) rfl) ?_
  refine aops_nil ?_
  change Awp _ _ _ _ _
  refine awp_ret ?_
  refine ⟨_, (.cons (.cellA rfl rfl sz366 rfl) (.cons (.tmp (by exact .d _)) .nil)), ?_⟩
  rw [hz]; rfl

def ltI (m : Md) (a b : Int × Int) : Rg × Int := if (opnI m a b).2 ≠ 0 then ((0, 0), (opnI m a b).2) else (leastI (opnI m a b).1, 0)
theorem lt_in (m : Md) (a b : Int × Int) : TimIn (ltI m a b).1 := by
  unfold ltI
  split
  · exact ⟨by simp, by simp, by simp, by simp⟩
  · rename_i h
    obtain ⟨hm, hw, e⟩ := opn_ok (Decidable.not_not.1 h)
    rw [e]
    exact least_in (way_law hm hw).2
def rtI (m : Md) (a b : Int × Int) : Int := ((ltI m a b).1.1 + (ltI m a b).1.2) / 2
theorem rt_in (m : Md) (a b : Int × Int) : 0 ≤ rtI m a b ∧ rtI m a b ≤ 20000000000 := by
  obtain ⟨h1, h2, h3, h4⟩ := lt_in m a b
  unfold rtI; omega
set_option maxRecDepth 100000 in
theorem leastTime_p (m : Md) (a b : Int × Int) : PC Tryz.prog 289 [.agg (mdC m), .agg (shC a), .agg (shC b)] (.tup [.agg [.v (.int .i64 (((ltI m a b).1).1)), .v (.int .i64 (((ltI m a b).1).2))], .v (.int .i64 ((ltI m a b).2))]) := by
 refine pc_of_awp Tryz.func289 rfl Tryz.ntmps289 (rs := [.cell 6 56, .tmp 7]) Tryz.results289 (by simp) fun w0 => ?_
 refine awp_seq ?_
 refine awp_region 3 mixed (by kernel_rfl) ?_
 refine rg_q (q_box rfl (by exact .inr ⟨_, rfl⟩)) ?_
 refine rg_q (q_box rfl (by exact .inr ⟨_, rfl⟩)) ?_
 refine rg_q (q_box rfl (by exact .inr ⟨_, rfl⟩)) ?_
 refine rg_nil ?_
 refine aops_alloc zr56 rfl rfl rfl ?_
 refine aops_q rfl (q_assign (x := .d (.v _)) rfl) ?_
 refine aops_nil ?_
 change Awp _ _ _ _ _
 refine awp_seq ?_
 refine awp_region 7 mixed (by kernel_rfl) ?_
 refine rg_q (q_loadA (ds := [_, _, _, _]) sz24 rfl rfl rfl) ?_
 refine rg_q (q_loadA (ds := [_, _]) sz33 rfl rfl rfl) ?_
 refine rg_q (q_loadA (ds := [_, _]) sz33 rfl rfl rfl) ?_
 refine rg_q (q_call en301 (.cons rfl (.cons rfl (.cons rfl .nil))) rfl (ropen_p _ _ _)) ?_
 refine rg_q (q_move (x := .d (.tup _)) rfl) (rg_q (q_extract rfl rfl) (rg_q (q_extract rfl rfl) ?_))
 refine rg_nil ?_
 refine aops_alloc zr366 rfl rfl rfl ?_
 refine aops_store sz366 rfl rfl (by exact .inr ⟨_, rfl⟩) rfl rfl (by decide) rfl ?_
 refine aops_q rfl (q_assign (x := .d (.v _)) rfl) ?_
 refine aops_nil ?_
 change Awp _ _ _ _ _
 refine awp_seq ?_
 refine awp_seq ?_
 refine awp_region 2 mixed (by kernel_rfl) ?_
 refine rg_q (q_move (x := .d (.v _)) rfl) (rg_q (q_neq rfl rfl) ?_)
 refine rg_nil (aops_nil ?_)
 change Awp _ _ _ _ _
 refine awp_cond rfl (fun hc2 => ?_) (fun hc2 => ?_)
 ·
  (try simp only [nb, ne_eq] at hc2)
  have hz : ltI m a b = ((0, 0), (opnI m a b).2) := by unfold ltI; rw [if_pos hc2]
  refine awp_seq ?_
  refine awp_region 2 mixed (by kernel_rfl) ?_
  refine rg_q (q_build (cs := [_, _]) pl56 zr56 rfl .nil trivial rfl) ?_
  refine rg_q (q_move (x := .d (.v _)) rfl) ?_
  refine rg_nil ?_
  refine aops_store sz56 rfl rfl (by exact .inr ⟨_, rfl⟩) rfl rfl (by decide) rfl ?_
  refine aops_q rfl (q_assign (x := .d (.v _)) rfl) ?_
  refine aops_nil ?_
  change Awp _ _ _ _ _
  refine awp_ret ?_
  refine ⟨_, (.cons (.cellA rfl rfl sz56 rfl) (.cons (.tmp (by exact .d _)) .nil)), ?_⟩
  rw [hz]; rfl
 ·
  (try simp only [nb, ne_eq] at hc2)
  have he : (opnI m a b).2 = 0 := by simpa using hc2
  obtain ⟨hm, hw, e⟩ := opn_ok he
  have hcx : CrsOk (opnI m a b).1 := by rw [e]; exact (way_law hm hw).2
  have hz : ltI m a b = (leastI (opnI m a b).1, 0) := by unfold ltI; rw [if_neg (by rw [he]; simp)]
  refine awp_skip ?_
  change Awp _ _ _ _ _
  refine awp_seq ?_
  refine awp_region 2 mixed (by kernel_rfl) ?_
  refine rg_q (q_load_refA (ds := [_, _, _, _, _, _]) sz366 rfl rfl rfl rfl) ?_
  refine rg_q (q_call en270 (.cons rfl .nil) rfl (least_p _ hcx)) ?_
  refine rg_nil ?_
  refine aops_store sz56 rfl rfl (by exact .inr ⟨_, rfl⟩) rfl rfl (by decide) rfl ?_
  refine aops_q rfl (q_assign (x := .d (.v _)) rfl) ?_
  refine aops_nil ?_
  change Awp _ _ _ _ _
  refine awp_ret ?_
  refine ⟨_, (.cons (.cellA rfl rfl sz56 rfl) (.cons (.tmp (by exact .d _)) .nil)), ?_⟩
  rw [hz]; rfl
set_option maxRecDepth 100000 in
theorem roundedTime_p (m : Md) (a b : Int × Int) : PC Tryz.prog 274 [.agg (mdC m), .agg (shC a), .agg (shC b)] (.tup [.v (.int .i64 (rtI m a b)), .v (.int .i64 ((ltI m a b).2))]) := by
 obtain ⟨h1, h2, h3, h4⟩ := lt_in m a b
 refine pc_of_awp Tryz.func274 rfl Tryz.ntmps274 (rs := [.tmp 6, .tmp 7]) Tryz.results274 (by simp) fun w0 => ?_
 refine awp_seq ?_
 refine awp_region 5 mixed (by kernel_rfl) ?_
 refine rg_q (q_box rfl (by exact .inr ⟨_, rfl⟩)) ?_
 refine rg_q (q_box rfl (by exact .inr ⟨_, rfl⟩)) ?_
 refine rg_q (q_box rfl (by exact .inr ⟨_, rfl⟩)) ?_
 refine rg_q (q_assign (x := .d (.v _)) rfl) (rg_q (q_assign (x := .d (.v _)) rfl) ?_)
 refine rg_nil (aops_nil ?_)
 change Awp _ _ _ _ _
 refine awp_seq ?_
 refine awp_region 7 mixed (by kernel_rfl) ?_
 refine rg_q (q_loadA (ds := [_, _, _, _]) sz24 rfl rfl rfl) ?_
 refine rg_q (q_loadA (ds := [_, _]) sz33 rfl rfl rfl) ?_
 refine rg_q (q_loadA (ds := [_, _]) sz33 rfl rfl rfl) ?_
 refine rg_q (q_call en289 (.cons rfl (.cons rfl (.cons rfl .nil))) rfl (leastTime_p _ _ _)) ?_
 refine rg_q (q_move (x := .d (.tup _)) rfl) (rg_q (q_extract rfl rfl) (rg_q (q_extract rfl rfl) ?_))
 refine rg_nil ?_
 refine aops_alloc zr56 rfl rfl rfl ?_
 refine aops_store sz56 rfl rfl (by exact .inr ⟨_, rfl⟩) rfl rfl (by decide) rfl ?_
 refine aops_q rfl (q_assign (x := .d (.v _)) rfl) ?_
 refine aops_nil ?_
 change Awp _ _ _ _ _
 refine awp_seq ?_
 refine awp_region 9 mixed (by kernel_rfl) ?_
 refine rg_q (q_fieldAddr_ref fld56_0 rfl) (rg_q (q_load_ref sz3 rfl rfl rfl) (rg_q (q_fieldAddr_ref fld56_1 rfl) (rg_q (q_load_ref sz3 rfl rfl rfl) ?_)))
 refine rg_q (q_add rfl rfl (In64.mk (by omega) (by omega))) ?_
 refine rg_q (q_call en290 (.cons rfl (.cons rfl .nil)) rfl (down_p _ _ ⟨by omega, by omega⟩ (by omega))) ?_
 refine rg_q (q_move (x := .d (.v _)) rfl) (rg_q (q_assign (x := .d (.v _)) rfl) (rg_q (q_assign (x := .d (.v _)) rfl) ?_))
 refine rg_nil (aops_nil ?_)
 change Awp _ _ _ _ _
 refine awp_ret ?_
 refine ⟨_, (.cons (.tmp (by exact .d _)) (.cons (.tmp (by exact .d _)) .nil)), ?_⟩
 rfl
end Go.Proofs.YtphlaicnmmglhaaGreat.Am.M
