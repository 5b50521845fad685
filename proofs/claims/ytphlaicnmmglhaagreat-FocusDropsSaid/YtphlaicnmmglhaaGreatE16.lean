/- Contracts over the abstract machine: drops; FocusDrops. Conditions: none. -/
import Derived.Test.YtphlaicnmmglhaaGreatE15
set_option linter.unusedVariables false
set_option linter.unusedSimpArgs false
-- mini
namespace Go.Proofs.YtphlaicnmmglhaaGreat.Am.M
open Go

theorem sz198 : szB Tryz.prog 198 false 1 = true := by kernel_rfl
theorem zr198 : zrB Tryz.prog 198 .nilFunc := by unfold zrB; kernel_rfl

structure Drp where
  ce : Int
  dn : Bool
  nu : Int
  de : Int
def drpC (x : Drp) : List D := [.v (.int .i64 x.ce), .v (.bool x.dn), .v (.int .i64 x.nu), .v (.int .i64 x.de)]
def dpA (g : Grd) (x : Drp) (n : Int) : Int := if x.dn = true then n * g.co + x.ce.tmod g.co else x.ce.tdiv g.co * g.co + n
def dpO (g : Grd) (x : Drp) : Int := if x.dn = true then x.ce.tdiv g.co else x.ce.tmod g.co
def dpN (g : Grd) (x : Drp) : Int := if x.dn = true then g.ro else g.co
def kpC (g : Grd) (pw : List Int) (x : Drp) (n : Int) : Bool := decide (pwA pw x.ce * x.nu ≤ pwA pw (dpA g x n) * x.de)
/-- Whether the power at a place of the row, or column, keeps up. -/
def kpB (g : Grd) (pw : List Int) (x : Drp) (n : Int) : Bool := bif inR 0 n (dpN g x - 1) then kpC g pw x n else false
def dpDn (p : Int → Bool) : Nat → Int → Int
  | 0, a => a
  | k + 1, a => if p (a - 1) = true then dpDn p k (a - 1) else a
def dpUp (p : Int → Bool) : Nat → Int → Int
  | 0, a => a
  | k + 1, a => if p (a + 1) = true then dpUp p k (a + 1) else a
theorem dpDn_t {p : Int → Bool} {i : Nat} {a : Int} (h : i < 40) (hp : p (a - 1) = true) : dpDn p (40 - i) a = dpDn p (40 - (i + 1)) (a - 1) := by
  rw [show 40 - i = (40 - (i + 1)) + 1 by omega]; show (if _ then _ else _) = _; rw [if_pos hp]
theorem dpDn_f {p : Int → Bool} {i : Nat} {a : Int} (h : i < 40) (hp : p (a - 1) = false) : dpDn p (40 - i) a = a := by
  rw [show 40 - i = (40 - (i + 1)) + 1 by omega]; show (if _ then _ else _) = _; rw [if_neg (by rw [hp]; decide)]
theorem dpUp_t {p : Int → Bool} {i : Nat} {a : Int} (h : i < 40) (hp : p (a + 1) = true) : dpUp p (40 - i) a = dpUp p (40 - (i + 1)) (a + 1) := by
  rw [show 40 - i = (40 - (i + 1)) + 1 by omega]; show (if _ then _ else _) = _; rw [if_pos hp]
theorem dpUp_f {p : Int → Bool} {i : Nat} {a : Int} (h : i < 40) (hp : p (a + 1) = false) : dpUp p (40 - i) a = a := by
  rw [show 40 - i = (40 - (i + 1)) + 1 by omega]; show (if _ then _ else _) = _; rw [if_neg (by rw [hp]; decide)]
theorem dpDn_le {p : Int → Bool} : ∀ (k : Nat) (a : Int), dpDn p k a ≤ a
  | 0, a => Int.le_refl _
  | k + 1, a => by
    show (if _ then _ else _) ≤ a
    split
    · have := dpDn_le (p := p) k (a - 1); omega
    · exact Int.le_refl _
theorem dpUp_ge {p : Int → Bool} : ∀ (k : Nat) (a : Int), a ≤ dpUp p k a
  | 0, a => Int.le_refl _
  | k + 1, a => by
    show a ≤ (if _ then _ else _)
    split
    · have := dpUp_ge (p := p) k (a + 1); omega
    · exact Int.le_refl _
def dpR (g : Grd) (pw : List Int) (x : Drp) : Int × Int := (dpDn (kpB g pw x) 40 (dpO g x), dpUp (kpB g pw x) 40 (dpO g x))
def drB (x : Drp) : Bool := bif (bif decide (x.nu < 1) then true else decide (1000 < x.de)) then true else decide (x.de < x.nu)
def drE (g : Grd) (x : Drp) : Int := firstE [clE g x.ce, whenI (drB x) 2]
def dropR (g : Grd) (pw : List Int) (x : Drp) : (Int × Int) × Int := if ofE g pw ≠ 0 then ((0, 0), ofE g pw) else if drE g x ≠ 0 then ((0, 0), drE g x) else (dpR g pw x, 0)
theorem drE_ok {g : Grd} {x : Drp} (h : drE g x = 0) : clE g x.ce = 0 ∧ 1 ≤ x.nu ∧ x.nu ≤ x.de ∧ x.de ≤ 1000 := by
  have h1 := first_zero.1 h
  have h2 := h1 (clE g x.ce) (by simp)
  have h3 := h1 (whenI (drB x) 2) (by simp)
  rw [when_zero (by decide)] at h3
  unfold drB at h3
  simp only [bif_or, Bool.or_eq_false_iff, decide_eq_false_iff_not] at h3
  exact ⟨h2, by omega, by omega, by omega⟩
theorem pwA_in {g : Grd} {pw : List Int} (h : FldOk g pw) (n : Int) : 0 ≤ pwA pw n ∧ pwA pw n ≤ 1000000000000000 := by
  unfold pwA
  rw [List.getD_eq_getElem?_getD]
  cases q : pw[n.toNat]? with
  | none => simp
  | some v => exact h.pw v (List.mem_of_getElem? q)
/-- The cell lies in its grid. -/
theorem ce_in {g : Grd} (hg : GrdOk g) {c : Int} (h1 : 0 ≤ c) (h2 : c ≤ g.co * g.ro - 1) : (0 ≤ c.tmod g.co ∧ c.tmod g.co ≤ g.co - 1) ∧ (0 ≤ c.tdiv g.co ∧ c.tdiv g.co ≤ g.ro - 1) ∧ c = c.tdiv g.co * g.co + c.tmod g.co := by
  have c1 := hg.c1
  obtain ⟨m1, m2⟩ := tmodP_in h1 c1
  obtain ⟨d1, d2⟩ := tdivP_in h1 c1
  have d3 : c.tdiv g.co ≤ g.ro - 1 := by
    rw [Int.tdiv_eq_ediv_of_nonneg h1]
    have := Int.ediv_lt_of_lt_mul (a := c) (b := g.ro) (c := g.co) (by omega) (by rw [Int.mul_comm]; omega)
    omega
  have e := Int.tdiv_mul_add_tmod c g.co
  exact ⟨⟨m1, by omega⟩, ⟨d1, d3⟩, e.symm⟩
theorem dpA_in {g : Grd} (hg : GrdOk g) {x : Drp} (hc : clE g x.ce = 0) {n : Int} (h : inR 0 n (dpN g x - 1) = true) : 0 ≤ dpA g x n ∧ dpA g x n ≤ g.co * g.ro - 1 := by
  obtain ⟨q1, q2⟩ := clE_ok hc
  obtain ⟨⟨m1, m2⟩, ⟨d1, d2⟩, e⟩ := ce_in hg q1 q2
  have c1 := hg.c1
  have r1 := hg.r1
  obtain ⟨a1, a2⟩ := inR_iff.1 h
  unfold dpN at a2
  unfold dpA
  split at a2
  · rename_i hd
    rw [if_pos hd]
    have e2 := Int.mul_nonneg a1 (show 0 ≤ g.co by omega)
    have e3 := Int.mul_le_mul_of_nonneg_right a2 (show 0 ≤ g.co by omega)
    rw [Int.sub_mul, Int.one_mul, Int.mul_comm g.ro g.co] at e3
    omega
  · rename_i hd
    rw [if_neg hd]
    have e2 := Int.mul_nonneg d1 (show 0 ≤ g.co by omega)
    have e3 := Int.mul_le_mul_of_nonneg_right d2 (show 0 ≤ g.co by omega)
    rw [Int.sub_mul, Int.one_mul, Int.mul_comm g.ro g.co] at e3
    omega
theorem dpO_in {g : Grd} (hg : GrdOk g) {x : Drp} (hc : clE g x.ce = 0) : 0 ≤ dpO g x ∧ dpO g x ≤ dpN g x - 1 ∧ dpN g x ≤ 40 ∧ dpA g x (dpO g x) = x.ce := by
  obtain ⟨q1, q2⟩ := clE_ok hc
  obtain ⟨⟨m1, m2⟩, ⟨d1, d2⟩, e⟩ := ce_in hg q1 q2
  have c2 := hg.c2
  have r2 := hg.r2
  unfold dpN dpA dpO
  split
  · exact ⟨d1, d2, r2, e.symm⟩
  · exact ⟨m1, m2, c2, e.symm⟩
set_option maxRecDepth 100000 in
theorem drop1_p (g : Grd) (pw : List Int) (n r : Int) (hg : GrdOk g) (h1 : -1000 ≤ n ∧ n ≤ 1000) (h2 : -1000 ≤ r ∧ r ≤ 1000) : PC Tryz.prog 119 [.v (.int .i64 (n)), .pt [.v (.int .i64 (r))] 0, .pt (fdC g pw) 0] (.v (.int .i64 (r * g.co + n))) := by
  obtain ⟨x1, x2, z1, z2, c1, c2, r1, r2, s1, s2⟩ := hg
  have hm := mulb (a := r) (b := g.co) (A := 1000) (B := 40) (by omega) (by omega) (by omega) (by omega)
  refine pc_of_awp Tryz.func119 rfl Tryz.ntmps119 (rs := [.tmp 4]) Tryz.results119 (by simp) fun w0 => ?_
  refine awp_seq ?_
  refine awp_region 1 mixed (by kernel_rfl) ?_
  refine rg_q (q_assign (x := .d (.v _)) rfl) ?_
  refine rg_nil ?_
  refine aops_nil ?_
  change Awp _ _ _ _ _
  refine awp_seq ?_
  refine awp_region 9 mixed (by kernel_rfl) ?_
  refine rg_q (q_load sz3 rfl rfl) ?_
  refine rg_q (q_fieldAddr fld193_0 rfl) ?_
  refine rg_q (q_fieldAddr fld150_0 rfl) ?_
  refine rg_q (q_fieldAddr fld35_1 rfl) ?_
  refine rg_q (q_load sz3 rfl rfl) ?_
  refine rg_q (q_mul rfl rfl (In64.mk (by omega) (by omega))) ?_
  refine rg_q (q_move (x := .d (.v _)) rfl) ?_
  refine rg_q (q_add rfl rfl (In64.mk (by omega) (by omega))) ?_
  refine rg_q (q_assign (x := .d (.v _)) rfl) ?_
  refine rg_nil ?_
  refine aops_nil ?_
  change Awp _ _ _ _ _
  refine awp_ret ?_
  refine ⟨_, (.cons (.tmp (by exact .d _)) .nil), ?_⟩
  rfl
set_option maxRecDepth 100000 in
theorem drop2_p (g : Grd) (pw : List Int) (n r : Int) (hg : GrdOk g) (h1 : -1000 ≤ n ∧ n ≤ 1000) (h2 : -1000 ≤ r ∧ r ≤ 1000) : PC Tryz.prog 120 [.v (.int .i64 (n)), .pt (fdC g pw) 0, .pt [.v (.int .i64 (r))] 0] (.v (.int .i64 (n * g.co + r))) := by
  obtain ⟨x1, x2, z1, z2, c1, c2, r1, r2, s1, s2⟩ := hg
  have hm := mulb (a := n) (b := g.co) (A := 1000) (B := 40) (by omega) (by omega) (by omega) (by omega)
  refine pc_of_awp Tryz.func120 rfl Tryz.ntmps120 (rs := [.tmp 4]) Tryz.results120 (by simp) fun w0 => ?_
  refine awp_seq ?_
  refine awp_region 1 mixed (by kernel_rfl) ?_
  refine rg_q (q_assign (x := .d (.v _)) rfl) ?_
  refine rg_nil ?_
  refine aops_nil ?_
  change Awp _ _ _ _ _
  refine awp_seq ?_
  refine awp_region 9 mixed (by kernel_rfl) ?_
  refine rg_q (q_move (x := .d (.v _)) rfl) ?_
  refine rg_q (q_fieldAddr fld193_0 rfl) ?_
  refine rg_q (q_fieldAddr fld150_0 rfl) ?_
  refine rg_q (q_fieldAddr fld35_1 rfl) ?_
  refine rg_q (q_load sz3 rfl rfl) ?_
  refine rg_q (q_mul rfl rfl (In64.mk (by omega) (by omega))) ?_
  refine rg_q (q_load sz3 rfl rfl) ?_
  refine rg_q (q_add rfl rfl (In64.mk (by omega) (by omega))) ?_
  refine rg_q (q_assign (x := .d (.v _)) rfl) ?_
  refine rg_nil ?_
  refine aops_nil ?_
  change Awp _ _ _ _ _
  refine awp_ret ?_
  refine ⟨_, (.cons (.tmp (by exact .d _)) .nil), ?_⟩
  rfl
set_option maxRecDepth 100000 in
theorem drop3_p (g : Grd) (pw : List Int) (x : Drp) (n c : Int) (k : FuncId) (cap : List D) (h : FldOk g pw) (hx : drE g x = 0) (hc : c = dpN g x) (hen : enB Tryz.prog k = true) (hk : PC Tryz.prog k ([.v (.int .i64 (n))] ++ cap) (.v (.int .i64 (dpA g x n)))) : PC Tryz.prog 121 [.v (.int .i64 (n)), .pt [.v (.int .i64 (c))] 0, .pt (fdC g pw) 0, .pt [.fn (.func k) cap] 0, .pt (drpC x) 0] (.v (.bool (kpB g pw x n))) := by
  subst hc
  have hg := h.gr
  obtain ⟨hcl, n1, n2, n3⟩ := drE_ok hx
  obtain ⟨q1, q2⟩ := clE_ok hcl
  have hlen := h.len
  have hce := pwA_at (pw := pw) (n := x.ce) q1 (by omega)
  have hb : inR 0 n (dpN g x - 1) = true → 0 ≤ dpA g x n ∧ pw[(dpA g x n).toNat]? = some (pwA pw (dpA g x n)) := fun q => by
    obtain ⟨w1, w2⟩ := dpA_in hg hcl q
    exact ⟨w1, pwA_at w1 (by omega)⟩
  obtain ⟨p1, p2⟩ := pwA_in h (dpA g x n)
  obtain ⟨p3, p4⟩ := pwA_in h x.ce
  obtain ⟨_, _, o3, _⟩ := dpO_in hg hcl
  obtain ⟨o1, o2, _, _⟩ := dpO_in hg hcl
  have hm1 := mulb (a := pwA pw (dpA g x n)) (b := x.de) (A := 1000000000000000) (B := 1000) (by omega) (by omega) (by omega) (by omega)
  have hm2 := mulb (a := pwA pw x.ce) (b := x.nu) (A := 1000000000000000) (B := 1000) (by omega) (by omega) (by omega) (by omega)
  refine pc_of_awp Tryz.func121 rfl Tryz.ntmps121 (rs := [.tmp 6]) Tryz.results121 (by simp) fun w0 => ?_
  refine awp_seq ?_
  refine awp_region 1 mixed (by kernel_rfl) ?_
  refine rg_q (q_assign (x := .d (.v _)) rfl) ?_
  refine rg_nil ?_
  refine aops_nil ?_
  change Awp _ _ _ _ _
  refine awp_seq ?_
  refine awp_region 27 mixed (by kernel_rfl) ?_
  refine rg_q (q_move (x := .d (.v _)) rfl) ?_
  refine rg_q (q_load sz3 rfl rfl) ?_
  refine rg_q (q_sub rfl rfl (In64.mk (by omega) (by omega))) ?_
  refine rg_q (q_call en89 (.cons rfl (.cons rfl (.cons rfl .nil))) rfl (fwithin_p _ _ _)) ?_
  refine rg_q (q_move (x := .d (.v _)) rfl) ?_
  refine rg_g rfl rfl (fun hG => (q_fieldAddr fld193_1 rfl)) ?_
  refine rg_g rfl rfl (fun hG => (q_load sz77 rfl rfl)) ?_
  refine rg_g rfl rfl (fun hG => (q_load sz198 rfl rfl)) ?_
  refine rg_g rfl rfl (fun hG => (q_move (x := .d (.v _)) rfl)) ?_
  refine rg_g rfl rfl (fun hG => (q_callC hen rfl (.cons rfl .nil) (hk))) ?_
  refine rg_g rfl rfl (fun hG => (q_indexAddr sl77 rfl rfl (by (have hg0 := T.bool_inj (a := _) hG.1; (try simp only [decide_eq_true_eq, decide_eq_false_iff_not, Bool.and_eq_true, Bool.or_eq_true, Bool.and_eq_false_iff, Bool.or_eq_false_iff, Bool.not_eq_true', Bool.not_eq_false', Bool.not_true, Bool.not_false, bif_and, bif_or, Bool.not_not, ne_eq, Decidable.not_not, not_true_eq_false, not_false_eq_true, Int.not_le, Int.not_lt] at hg0); (have qq := hb hg0; omega))) (map_at (k := (dpA g x n).toNat) (by have := (hb (T.bool_inj (a := _) hG.1)).1; omega) (hb (T.bool_inj (a := _) hG.1)).2))) ?_
  refine rg_g rfl rfl (fun hG => (q_load sz3 rfl rfl)) ?_
  refine rg_g rfl rfl (fun hG => (q_fieldAddr fld79_3 rfl)) ?_
  refine rg_g rfl rfl (fun hG => (q_load sz3 rfl rfl)) ?_
  refine rg_g rfl rfl (fun hG => (q_mul rfl rfl (In64.mk (by (have hg0 := T.bool_inj (a := _) hG.1; (try simp only [decide_eq_true_eq, decide_eq_false_iff_not, Bool.and_eq_true, Bool.or_eq_true, Bool.and_eq_false_iff, Bool.or_eq_false_iff, Bool.not_eq_true', Bool.not_eq_false', Bool.not_true, Bool.not_false, bif_and, bif_or, Bool.not_not, ne_eq, Decidable.not_not, not_true_eq_false, not_false_eq_true, Int.not_le, Int.not_lt] at hg0); omega)) (by (have hg0 := T.bool_inj (a := _) hG.1; (try simp only [decide_eq_true_eq, decide_eq_false_iff_not, Bool.and_eq_true, Bool.or_eq_true, Bool.and_eq_false_iff, Bool.or_eq_false_iff, Bool.not_eq_true', Bool.not_eq_false', Bool.not_true, Bool.not_false, bif_and, bif_or, Bool.not_not, ne_eq, Decidable.not_not, not_true_eq_false, not_false_eq_true, Int.not_le, Int.not_lt] at hg0); omega))))) ?_
  refine rg_g rfl rfl (fun hG => (q_fieldAddr fld193_1 rfl)) ?_
  refine rg_g rfl rfl (fun hG => (q_load sz77 rfl rfl)) ?_
  refine rg_g rfl rfl (fun hG => (q_fieldAddr fld79_0 rfl)) ?_
  refine rg_g rfl rfl (fun hG => (q_load sz3 rfl rfl)) ?_
  refine rg_g rfl rfl (fun hG => (q_indexAddr sl77 rfl rfl (by (have hg0 := T.bool_inj (a := _) hG.1; (try simp only [decide_eq_true_eq, decide_eq_false_iff_not, Bool.and_eq_true, Bool.or_eq_true, Bool.and_eq_false_iff, Bool.or_eq_false_iff, Bool.not_eq_true', Bool.not_eq_false', Bool.not_true, Bool.not_false, bif_and, bif_or, Bool.not_not, ne_eq, Decidable.not_not, not_true_eq_false, not_false_eq_true, Int.not_le, Int.not_lt] at hg0); omega)) (map_at (k := x.ce.toNat) (by omega) hce))) ?_
  refine rg_g rfl rfl (fun hG => (q_load sz3 rfl rfl)) ?_
  refine rg_g rfl rfl (fun hG => (q_fieldAddr fld79_2 rfl)) ?_
  refine rg_g rfl rfl (fun hG => (q_load sz3 rfl rfl)) ?_
  refine rg_g rfl rfl (fun hG => (q_mul rfl rfl (In64.mk (by (have hg0 := T.bool_inj (a := _) hG.1; (try simp only [decide_eq_true_eq, decide_eq_false_iff_not, Bool.and_eq_true, Bool.or_eq_true, Bool.and_eq_false_iff, Bool.or_eq_false_iff, Bool.not_eq_true', Bool.not_eq_false', Bool.not_true, Bool.not_false, bif_and, bif_or, Bool.not_not, ne_eq, Decidable.not_not, not_true_eq_false, not_false_eq_true, Int.not_le, Int.not_lt] at hg0); omega)) (by (have hg0 := T.bool_inj (a := _) hG.1; (try simp only [decide_eq_true_eq, decide_eq_false_iff_not, Bool.and_eq_true, Bool.or_eq_true, Bool.and_eq_false_iff, Bool.or_eq_false_iff, Bool.not_eq_true', Bool.not_eq_false', Bool.not_true, Bool.not_false, bif_and, bif_or, Bool.not_not, ne_eq, Decidable.not_not, not_true_eq_false, not_false_eq_true, Int.not_le, Int.not_lt] at hg0); omega))))) ?_
  refine rg_g rfl rfl (fun hG => (q_geq rfl rfl)) ?_
  refine rg_pick rfl rfl rfl rfl rfl rfl ?_
  refine rg_q (q_assign (x := .d (.v _)) rfl) ?_
  refine rg_nil ?_
  refine aops_nil ?_
  change Awp _ _ _ _ _
  refine awp_ret ?_
  refine ⟨_, (.cons (.tmp (by exact .d _)) .nil), ?_⟩
  rfl

theorem bx2 {a b c d : Int} (h1 : a = c) (h2 : b = d) : Site.box [.v (.int .i64 a), .v (.int .i64 b)] = Site.box [.v (.int .i64 c), .v (.int .i64 d)] := by rw [h1, h2]
theorem kpB_in {g : Grd} {pw : List Int} {x : Drp} {n : Int} (h : kpB g pw x n = true) : 0 ≤ n ∧ n ≤ dpN g x - 1 := by
  unfold kpB at h
  cases q : inR 0 n (dpN g x - 1) with
  | true => exact inR_iff.1 q
  | false => rw [q] at h; cases h
set_option maxHeartbeats 4000000 in
theorem dropOf_p (g : Grd) (pw : List Int) (x : Drp) : PC Tryz.prog 41 [.agg (grdC g), .sl 1 (pw.map iC), .agg (drpC x)] (.tup [.agg (shC (dropR g pw x).1), .v (.int .i64 ((dropR g pw x).2))]) := by
  refine pc_of_awpN Tryz.func41 rfl Tryz.ntmps41 (rs := [.cell 6 56, .tmp 7]) Tryz.results41 (by simp) fun w0 hmine hrnd hpn => ?_
  refine awp_seq ?_
  refine awp_region 2 mixed (by kernel_rfl) ?_
  refine rg_q (q_box rfl (by exact .inr ⟨_, rfl⟩)) ?_
  refine rg_q (q_box rfl (by exact .inr ⟨_, rfl⟩)) ?_
  refine rg_nil ?_
  refine aops_alloc zr56 rfl rfl rfl ?_
  refine aops_q rfl (q_assign (x := .d (.v _)) rfl) ?_
  refine aops_nil ?_
  change Awp _ _ _ _ _
  refine awp_seq ?_
  refine awp_region 6 mixed (by kernel_rfl) ?_
  refine rg_q (q_loadA (ds := [_, _, _, _, _]) sz35 rfl rfl rfl) ?_
  refine rg_q (q_move (x := .d (.sl _ _)) rfl) ?_
  refine rg_q (q_call en116 (.cons rfl (.cons rfl .nil)) rfl (openField_p _ _)) ?_
  refine rg_q (q_move (x := .d (.tup _)) rfl) ?_
  refine rg_q (q_extract rfl rfl) ?_
  refine rg_q (q_extract rfl rfl) ?_
  refine rg_nil ?_
  refine aops_allocD zr193 rfl sz193 rfl rfl (by exact .inr ⟨_, rfl⟩) (ofD_len g pw) rfl ?_
  refine aops_q rfl (q_assign (x := .d (.v _)) rfl) ?_
  refine aops_nil ?_
  change Awp _ _ _ _ _
  refine awp_seq ?_
  refine awp_seq ?_
  refine awp_region 2 mixed (by kernel_rfl) ?_
  refine rg_q (q_move (x := .d (.v _)) rfl) ?_
  refine rg_q (q_neq rfl rfl) ?_
  refine rg_nil ?_
  refine aops_nil ?_
  change Awp _ _ _ _ _
  refine awp_cond rfl (fun hc2 => ?_) (fun hc2 => ?_)
  ·
    (try simp only [decide_eq_true_eq, decide_eq_false_iff_not, Bool.and_eq_true, Bool.or_eq_true, Bool.and_eq_false_iff, Bool.or_eq_false_iff, Bool.not_eq_true', Bool.not_eq_false', Bool.not_true, Bool.not_false, bif_and, bif_or, Bool.not_not, ne_eq, Decidable.not_not, not_true_eq_false, not_false_eq_true, Int.not_le, Int.not_lt] at hc2)
    have hz : dropR g pw x = ((0, 0), ofE g pw) := by unfold dropR; rw [if_pos hc2]
    refine awp_seq ?_
    refine awp_region 2 mixed (by kernel_rfl) ?_
    refine rg_q (q_build (cs := [_, _]) pl56 zr56 rfl .nil trivial rfl) ?_
    refine rg_q (q_move (x := .d (.v _)) rfl) ?_
    refine rg_nil ?_
    refine aops_store sz56 rfl rfl (by exact .inr ⟨_, rfl⟩) rfl rfl (by decide) rfl ?_
    refine aops_q rfl (q_assign (x := .d (.v _)) rfl) ?_
    refine aops_nil ?_
    change Awp _ _ _ _ _
    refine awp_ret ?_
    refine ⟨_, (.cons (.cellA rfl rfl sz56 rfl) (.cons (.tmp (by exact .d _)) .nil)), ?_⟩
    (rw [hz]; rfl)
  ·
    (try simp only [decide_eq_true_eq, decide_eq_false_iff_not, Bool.and_eq_true, Bool.or_eq_true, Bool.and_eq_false_iff, Bool.or_eq_false_iff, Bool.not_eq_true', Bool.not_eq_false', Bool.not_true, Bool.not_false, bif_and, bif_or, Bool.not_not, ne_eq, Decidable.not_not, not_true_eq_false, not_false_eq_true, Int.not_le, Int.not_lt] at hc2)
    have h0 : ofE g pw = 0 := by simpa using hc2
    obtain ⟨hfk, hfd⟩ := of_ok h0
    have hg := hfk.gr
    have hci := cells_in hg
    have hlen := hfk.len
    rw [hfd]
    refine awp_skip ?_
    change Awp _ _ _ _ _
    refine awp_seq ?_
    refine awp_seq ?_
    refine awp_region 24 mixed (by kernel_rfl) ?_
    refine rg_q (q_fieldAddr fld193_0 rfl) ?_
    refine rg_q (q_loadA (ds := [_, _, _, _, _]) sz150 rfl rfl rfl) ?_
    refine rg_q (q_fieldAddr fld79_0 rfl) ?_
    refine rg_q (q_load sz3 rfl rfl) ?_
    refine rg_q (q_call en118 (.cons rfl (.cons rfl .nil)) rfl (fcellErr_p _ _ (by assumption))) ?_
    refine rg_q (q_fieldAddr fld79_2 rfl) ?_
    refine rg_q (q_load sz3 rfl rfl) ?_
    refine rg_q (q_lss rfl rfl) ?_
    refine rg_q (q_move (x := .d (.v _)) rfl) ?_
    refine rg_g rfl rfl (fun hG => (q_fieldAddr fld79_3 rfl)) ?_
    refine rg_g rfl rfl (fun hG => (q_load sz3 rfl rfl)) ?_
    refine rg_g rfl rfl (fun hG => (q_gtr rfl rfl)) ?_
    refine rg_pick rfl rfl rfl rfl rfl rfl ?_
    refine rg_q (q_move (x := .d (.v _)) rfl) ?_
    refine rg_g rfl rfl (fun hG => (q_fieldAddr fld79_2 rfl)) ?_
    refine rg_g rfl rfl (fun hG => (q_load sz3 rfl rfl)) ?_
    refine rg_g rfl rfl (fun hG => (q_fieldAddr fld79_3 rfl)) ?_
    refine rg_g rfl rfl (fun hG => (q_load sz3 rfl rfl)) ?_
    refine rg_g rfl rfl (fun hG => (q_gtr rfl rfl)) ?_
    refine rg_pick rfl rfl rfl rfl rfl rfl ?_
    refine rg_q (q_call en88 (.cons rfl (.cons rfl .nil)) rfl (fwhen_p _ _)) ?_
    refine rg_q (q_buildSlice sl282 zr40 rfl rfl (by decide) (.cons rfl (by exact .inl rfl) (.cons rfl (by exact .inl rfl) .nil)) ⟨rfl, rfl, rfl, rfl, trivial⟩ rfl (by decide) rfl) ?_
    refine rg_q (q_call en117 (.cons rfl .nil) rfl (ffirst_p [_, _])) ?_
    refine rg_q (q_assign (x := .d (.v _)) rfl) ?_
    refine rg_nil ?_
    refine aops_nil ?_
    change Awp _ _ _ _ _
    refine awp_seq ?_
    refine awp_region 2 mixed (by kernel_rfl) ?_
    refine rg_q (q_move (x := .d (.v _)) rfl) ?_
    refine rg_q (q_neq rfl rfl) ?_
    refine rg_nil ?_
    refine aops_nil ?_
    change Awp _ _ _ _ _
    refine awp_cond rfl (fun hc5 => ?_) (fun hc5 => ?_)
    ·
      (try simp only [decide_eq_true_eq, decide_eq_false_iff_not, Bool.and_eq_true, Bool.or_eq_true, Bool.and_eq_false_iff, Bool.or_eq_false_iff, Bool.not_eq_true', Bool.not_eq_false', Bool.not_true, Bool.not_false, bif_and, bif_or, Bool.not_not, ne_eq, Decidable.not_not, not_true_eq_false, not_false_eq_true, Int.not_le, Int.not_lt] at hc5)
      have hc5 : drE g x ≠ 0 := by unfold drE drB; simp only [bif_or]; exact hc5
      have hz : dropR g pw x = ((0, 0), drE g x) := by unfold dropR; rw [if_neg (fun q => q h0), if_pos hc5]
      refine awp_seq ?_
      refine awp_region 2 mixed (by kernel_rfl) ?_
      refine rg_q (q_build (cs := [_, _]) pl56 zr56 rfl .nil trivial rfl) ?_
      refine rg_q (q_move (x := .d (.v _)) rfl) ?_
      refine rg_nil ?_
      refine aops_store sz56 rfl rfl (by exact .inr ⟨_, rfl⟩) rfl rfl (by decide) rfl ?_
      refine aops_q rfl (q_assign (x := .d (.v _)) rfl) ?_
      refine aops_nil ?_
      change Awp _ _ _ _ _
      refine awp_ret ?_
      refine ⟨_, (.cons (.cellA rfl rfl sz56 rfl) (.cons (.tmp (by exact .d _)) .nil)), ?_⟩
      (rw [hz]; rfl)
    ·
      (try simp only [decide_eq_true_eq, decide_eq_false_iff_not, Bool.and_eq_true, Bool.or_eq_true, Bool.and_eq_false_iff, Bool.or_eq_false_iff, Bool.not_eq_true', Bool.not_eq_false', Bool.not_true, Bool.not_false, bif_and, bif_or, Bool.not_not, ne_eq, Decidable.not_not, not_true_eq_false, not_false_eq_true, Int.not_le, Int.not_lt] at hc5)
      have hd0 : drE g x = 0 := by unfold drE drB; simp only [bif_or]; exact hc5
      obtain ⟨hcl, n1, n2, n3⟩ := drE_ok hd0
      obtain ⟨q1, q2⟩ := clE_ok hcl
      obtain ⟨⟨m1, m2⟩, ⟨d1, d2⟩, hce⟩ := ce_in hg q1 q2
      obtain ⟨o1, o2, o3, o4⟩ := dpO_in hg hcl
      have c1 := hg.c1
      have c2 := hg.c2
      have r1 := hg.r1
      have r2 := hg.r2
      have hz : dropR g pw x = (dpR g pw x, 0) := by unfold dropR; rw [if_neg (fun q => q h0), if_neg (fun q => q hd0)]
      refine awp_skip ?_
      change Awp _ _ _ _ _
      refine awp_seq ?_
      refine awp_regionM 18 [none, none, none, none, none, none, none, none, none, none, none, none, none, none, some 11, some 12, some 11, some 12] mixed (by kernel_rfl) ?_
      refine rgm_q rfl (q_fieldAddr fld79_0 rfl) ?_
      refine rgm_q rfl (q_load sz3 rfl rfl) ?_
      refine rgm_q rfl (q_fieldAddr fld193_0 rfl) ?_
      refine rgm_q rfl (q_fieldAddr fld150_0 rfl) ?_
      refine rgm_q rfl (q_fieldAddr fld35_1 rfl) ?_
      refine rgm_q rfl (q_load sz3 rfl rfl) ?_
      refine rgm_q rfl (q_rem rfl rfl (by omega)) ?_
      refine rgm_q rfl (q_fieldAddr fld79_0 rfl) ?_
      refine rgm_q rfl (q_load sz3 rfl rfl) ?_
      refine rgm_q rfl (q_fieldAddr fld193_0 rfl) ?_
      refine rgm_q rfl (q_fieldAddr fld150_0 rfl) ?_
      refine rgm_q rfl (q_fieldAddr fld35_1 rfl) ?_
      refine rgm_q rfl (q_load sz3 rfl rfl) ?_
      refine rgm_q rfl (q_quo rfl rfl (by omega) (In64.mk (by omega) (by omega))) ?_
      refine rgm_m (k := 11) rfl rfl (by rfl) (m_alloc zr3 rfl rfl) ?_
      refine rgm_m (k := 12) rfl rfl (by rfl) (m_alloc zr3 rfl rfl) ?_
      refine rgm_m (k := 11) rfl rfl (by rfl) (m_store sz3 rfl rfl (by exact .inl rfl) rfl rfl (by decide) rfl) ?_
      refine rgm_m (k := 12) rfl rfl (by rfl) (m_store sz3 rfl rfl (by exact .inl rfl) rfl rfl (by decide) rfl) ?_
      refine rgm_nil ?_
      refine aops_nil ?_
      change Awp _ _ _ _ _
      refine awp_seq ?_
      refine Awp.le (le_freeze 11 11 0 (cs := [.v (.int .i64 (x.ce.tmod g.co))]) rfl rfl rfl rfl hmine) ?_
      refine Awp.le (le_freeze 12 12 0 (cs := [.v (.int .i64 (x.ce.tdiv g.co))]) rfl rfl rfl rfl hmine) ?_
      refine awp_regionM 11 [none, none, none, none, none, none, some 14, some 15, none, some 14, some 15] mixed (by kernel_rfl) ?_
      refine rgm_q rfl (q_load sz3 rfl rfl) ?_
      refine rgm_q rfl (q_fieldAddr fld193_0 rfl) ?_
      refine rgm_q rfl (q_fieldAddr fld150_0 rfl) ?_
      refine rgm_q rfl (q_fieldAddr fld35_1 rfl) ?_
      refine rgm_q rfl (q_load sz3 rfl rfl) ?_
      refine rgm_q rfl (q_makeFunc (.cons rfl (.cons rfl .nil))) ?_
      refine rgm_m (k := 14) rfl rfl (by rfl) (m_alloc zr3 rfl rfl) ?_
      refine rgm_m (k := 15) rfl rfl (by rfl) (m_alloc zr198 rfl rfl) ?_
      refine rgm_q rfl (q_assign (x := .d (.v _)) rfl) ?_
      refine rgm_m (k := 14) rfl rfl (by rfl) (m_store sz3 rfl rfl (by exact .inl rfl) rfl rfl (by decide) rfl) ?_
      refine rgm_m (k := 15) rfl rfl (by rfl) (m_store sz198 rfl rfl (by exact .inl rfl) rfl rfl (by decide) rfl) ?_
      refine rgm_nil ?_
      refine aops_nil ?_
      change Awp _ _ _ _ _
      refine awp_seq ?_
      refine awp_seq ?_
      refine awp_region 2 mixed (by kernel_rfl) ?_
      refine rg_q (q_fieldAddr fld79_1 rfl) ?_
      refine rg_q (q_load sz4 rfl rfl) ?_
      refine rg_nil ?_
      refine aops_nil ?_
      change Awp _ _ _ _ _
      refine awp_cond rfl (fun hc9 => ?_) (fun hc9 => ?_)
      ·
        (try simp only [decide_eq_true_eq, decide_eq_false_iff_not, Bool.and_eq_true, Bool.or_eq_true, Bool.and_eq_false_iff, Bool.or_eq_false_iff, Bool.not_eq_true', Bool.not_eq_false', Bool.not_true, Bool.not_false, bif_and, bif_or, Bool.not_not, ne_eq, Decidable.not_not, not_true_eq_false, not_false_eq_true, Int.not_le, Int.not_lt] at hc9)
        have hdn : x.dn = true := hc9
        have hdo : dpO g x = x.ce.tdiv g.co := by unfold dpO; rw [if_pos hdn]
        have hdN : dpN g x = g.ro := by unfold dpN; rw [if_pos hdn]
        have hkp : ∀ n : Int, -1000 ≤ n → n ≤ 1000 → PC Tryz.prog 121 [.v (.int .i64 (n)), .pt [.v (.int .i64 (g.ro))] 0, .pt (fdC g pw) 0, .pt [.fn (.func 120) [.pt (fdC g pw) 0, .pt [.v (.int .i64 (x.ce.tmod g.co))] 0]] 0, .pt (drpC x) 0] (.v (.bool (kpB g pw x n))) := fun n h1 h2 => drop3_p g pw x n (g.ro) 120 [.pt (fdC g pw) 0, .pt [.v (.int .i64 (x.ce.tmod g.co))] 0] hfk hd0 hdN.symm en120 (by have h := drop2_p g pw n (x.ce.tmod g.co) hg ⟨h1, h2⟩ (by omega); have e : dpA g x n = n * g.co + x.ce.tmod g.co := by { unfold dpA; rw [if_pos hdn]}; rw [e]; exact h)
        refine awp_regionM 9 [none, none, none, none, none, none, none, some 14, some 15] mixed (by kernel_rfl) ?_
        refine rgm_q rfl (q_load sz3 rfl rfl) ?_
        refine rgm_q rfl (q_fieldAddr fld193_0 rfl) ?_
        refine rgm_q rfl (q_fieldAddr fld150_0 rfl) ?_
        refine rgm_q rfl (q_fieldAddr fld35_2 rfl) ?_
        refine rgm_q rfl (q_load sz3 rfl rfl) ?_
        refine rgm_q rfl (q_makeFunc (.cons rfl (.cons rfl .nil))) ?_
        refine rgm_q rfl (q_assign (x := .d (.v _)) rfl) ?_
        refine rgm_m (k := 14) rfl rfl (by rfl) (m_store sz3 rfl rfl (by exact .inl rfl) rfl rfl (by exact Nat.le_of_ble_eq_true rfl) rfl) ?_
        refine rgm_m (k := 15) rfl rfl (by rfl) (m_store sz198 rfl rfl (by exact .inl rfl) rfl rfl (by exact Nat.le_of_ble_eq_true rfl) rfl) ?_
        refine rgm_nil ?_
        refine aops_nil ?_
        change Awp _ _ _ _ _
        refine awp_seq ?_
        refine Awp.le (le_freeze 14 14 0 rfl rfl rfl rfl hmine) ?_
        refine Awp.le (le_freeze 15 15 0 rfl rfl rfl rfl hmine) ?_
        refine awp_region 2 mixed (by kernel_rfl) ?_
        refine rg_q (q_makeFunc (.cons rfl (.cons rfl (.cons rfl (.cons rfl .nil))))) ?_
        refine rg_q (q_assign (x := .d (.fn _ _)) rfl) ?_
        refine rg_nil ?_
        refine aops_nil ?_
        change Awp _ _ _ _ _
        refine awp_seq ?_
        refine awp_region 3 mixed (by kernel_rfl) ?_
        refine rg_q (q_move (x := .d (.v _)) rfl) ?_
        refine rg_q (q_move (x := .d (.v _)) rfl) ?_
        refine rg_q (q_build (cs := [_, _]) pl56 zr56 rfl (.cons rfl (by exact .inl rfl) (.cons rfl (by exact .inl rfl) .nil)) ⟨⟨rfl, by decide⟩, ⟨rfl, by decide⟩, trivial⟩ rfl) ?_
        refine rg_nil ?_
        refine aops_alloc zr56 rfl rfl rfl ?_
        refine aops_store sz56 rfl rfl (by exact .inr ⟨_, rfl⟩) rfl rfl (by decide) rfl ?_
        refine aops_nil ?_
        change Awp _ _ _ _ _
        refine awp_seq ?_
        refine awp_block ?_
        refine awp_loopH [87, 88, 89, 90, 91, 92, 93, 94, 95] [17] (α := Nat) (fun i => []) (fun i => [(17, .box [.v (.int .i64 (dpO g x - (i : Int))), .v (.int .i64 (dpO g x))])]) (fun i => (i : Int) ≤ dpO g x ∧ dpDn (kpB g pw x) 40 (dpO g x) = dpDn (kpB g pw x) (40 - i) (dpO g x - (i : Int))) (fun i => 40 - i) 0 ⟨(by show ((0 : Nat) : Int) ≤ dpO g x; omega), by simp⟩ ?_ ?_
        · exact le_head (ms := [17]) (by repeat (exact Out.refl _)) trivial ⟨(by (exact bx2 (by omega) (by omega))), trivial⟩ rfl rfl rfl rfl
        ·
          intro i ⟨hi, hh⟩
          refine awp_seq ?_
          refine awp_seq ?_
          refine awp_region 5 mixed (by kernel_rfl) ?_
          refine rg_q (q_move (x := .d (.fn _ _)) rfl) ?_
          refine rg_q (q_fieldAddr_ref fld56_0 rfl) ?_
          refine rg_q (q_load_ref sz3 rfl rfl rfl) ?_
          refine rg_q (q_sub rfl rfl (In64.mk (by omega) (by omega))) ?_
          refine rg_q (q_callC en121 rfl (.cons rfl .nil) ((hkp _ (by omega) (by omega)))) ?_
          refine rg_nil ?_
          refine aops_nil ?_
          change Awp _ _ _ _ _
          refine awp_cond rfl (fun hc13 => ?_) (fun hc13 => ?_)
          ·
            (try simp only [decide_eq_true_eq, decide_eq_false_iff_not, Bool.and_eq_true, Bool.or_eq_true, Bool.and_eq_false_iff, Bool.or_eq_false_iff, Bool.not_eq_true', Bool.not_eq_false', Bool.not_true, Bool.not_false, bif_and, bif_or, Bool.not_not, ne_eq, Decidable.not_not, not_true_eq_false, not_false_eq_true, Int.not_le, Int.not_lt] at hc13)
            have hki := kpB_in hc13
            have hi40 : i < 40 := by omega
            rw [dpDn_t hi40 hc13] at hh
            refine awp_skip ?_
            change Awp _ _ _ _ _
            refine awp_block ?_
            refine awp_region 4 mixed (by kernel_rfl) ?_
            refine rg_q (q_fieldAddr_ref fld56_0 rfl) ?_
            refine rg_q (q_load_ref sz3 rfl rfl rfl) ?_
            refine rg_q (q_sub rfl rfl (In64.mk (by omega) (by omega))) ?_
            refine rg_q (q_fieldAddr_ref fld56_0 rfl) ?_
            refine rg_nil ?_
            refine aops_store sz3 rfl rfl (by exact .inl rfl) rfl rfl (by simp; done) rfl ?_
            refine aops_nil ?_
            refine ⟨i + 1, ⟨by omega, by rw [hh]; congr 1; omega⟩, by omega, ?_⟩
            exact le_head (ms := [17]) (by repeat (first | exact Out.head rfl rfl | (refine Out.put ?_ rfl) | (refine Out.site ?_ rfl))) trivial ⟨(by (exact bx2 (by omega) (by omega))), trivial⟩ rfl rfl rfl rfl
          ·
            (try simp only [decide_eq_true_eq, decide_eq_false_iff_not, Bool.and_eq_true, Bool.or_eq_true, Bool.and_eq_false_iff, Bool.or_eq_false_iff, Bool.not_eq_true', Bool.not_eq_false', Bool.not_true, Bool.not_false, bif_and, bif_or, Bool.not_not, ne_eq, Decidable.not_not, not_true_eq_false, not_false_eq_true, Int.not_le, Int.not_lt] at hc13)
            have hi40 : i < 40 := by omega
            rw [dpDn_f hi40 hc13] at hh
            refine awp_exit ?_
            change Awp _ _ _ _ _
            refine awp_seq ?_
            refine awp_block ?_
            refine awp_loopH [96, 97, 98, 99, 100, 101, 102, 103, 104] [17] (α := Nat) (fun j => []) (fun j => [(17, .box [.v (.int .i64 (dpO g x - (i : Int))), .v (.int .i64 (dpO g x + (j : Int)))])]) (fun j => dpO g x + (j : Int) ≤ dpN g x - 1 ∧ dpUp (kpB g pw x) 40 (dpO g x) = dpUp (kpB g pw x) (40 - j) (dpO g x + (j : Int))) (fun j => 40 - j) 0 ⟨(by show dpO g x + ((0 : Nat) : Int) ≤ dpN g x - 1; omega), by simp⟩ ?_ ?_
            · exact le_head (ms := [17]) (by repeat (exact Out.refl _)) trivial ⟨(by (exact bx2 (by omega) (by omega))), trivial⟩ rfl rfl rfl rfl
            ·
              intro j ⟨hj, hu⟩
              refine awp_seq ?_
              refine awp_seq ?_
              refine awp_region 5 mixed (by kernel_rfl) ?_
              refine rg_q (q_move (x := .d (.fn _ _)) rfl) ?_
              refine rg_q (q_fieldAddr_ref fld56_1 rfl) ?_
              refine rg_q (q_load_ref sz3 rfl rfl rfl) ?_
              refine rg_q (q_add rfl rfl (In64.mk (by omega) (by omega))) ?_
              refine rg_q (q_callC en121 rfl (.cons rfl .nil) ((hkp _ (by omega) (by omega)))) ?_
              refine rg_nil ?_
              refine aops_nil ?_
              change Awp _ _ _ _ _
              refine awp_cond rfl (fun hc15 => ?_) (fun hc15 => ?_)
              ·
                (try simp only [decide_eq_true_eq, decide_eq_false_iff_not, Bool.and_eq_true, Bool.or_eq_true, Bool.and_eq_false_iff, Bool.or_eq_false_iff, Bool.not_eq_true', Bool.not_eq_false', Bool.not_true, Bool.not_false, bif_and, bif_or, Bool.not_not, ne_eq, Decidable.not_not, not_true_eq_false, not_false_eq_true, Int.not_le, Int.not_lt] at hc15)
                have hkj := kpB_in hc15
                have hj40 : j < 40 := by omega
                rw [dpUp_t hj40 hc15] at hu
                refine awp_skip ?_
                change Awp _ _ _ _ _
                refine awp_block ?_
                refine awp_region 4 mixed (by kernel_rfl) ?_
                refine rg_q (q_fieldAddr_ref fld56_1 rfl) ?_
                refine rg_q (q_load_ref sz3 rfl rfl rfl) ?_
                refine rg_q (q_add rfl rfl (In64.mk (by omega) (by omega))) ?_
                refine rg_q (q_fieldAddr_ref fld56_1 rfl) ?_
                refine rg_nil ?_
                refine aops_store sz3 rfl rfl (by exact .inl rfl) rfl rfl (by simp; done) rfl ?_
                refine aops_nil ?_
                refine ⟨j + 1, ⟨by omega, by rw [hu]; congr 1; omega⟩, by omega, ?_⟩
                exact le_head (ms := [17]) (by repeat (first | exact Out.head rfl rfl | (refine Out.put ?_ rfl) | (refine Out.site ?_ rfl))) trivial ⟨(by (exact bx2 (by omega) (by omega))), trivial⟩ rfl rfl rfl rfl
              ·
                (try simp only [decide_eq_true_eq, decide_eq_false_iff_not, Bool.and_eq_true, Bool.or_eq_true, Bool.and_eq_false_iff, Bool.or_eq_false_iff, Bool.not_eq_true', Bool.not_eq_false', Bool.not_true, Bool.not_false, bif_and, bif_or, Bool.not_not, ne_eq, Decidable.not_not, not_true_eq_false, not_false_eq_true, Int.not_le, Int.not_lt] at hc15)
                have hj40 : j < 40 := by omega
                rw [dpUp_f hj40 hc15] at hu
                have hr : dpR g pw x = (dpO g x - (i : Int), dpO g x + (j : Int)) := by unfold dpR; rw [hh, hu]
                refine awp_exit ?_
                change Awp _ _ _ _ _
                refine awp_seq ?_
                refine awp_region 1 mixed (by kernel_rfl) ?_
                refine rg_q (q_load_refA (ds := [_, _]) sz56 rfl rfl rfl rfl) ?_
                refine rg_nil ?_
                refine aops_store sz56 rfl rfl (by exact .inr ⟨_, rfl⟩) rfl rfl (by decide) rfl ?_
                refine aops_q rfl (q_assign (x := .d (.v _)) rfl) ?_
                refine aops_nil ?_
                change Awp _ _ _ _ _
                refine awp_ret ?_
                refine ⟨_, (.cons (.cellA rfl rfl sz56 rfl) (.cons (.tmp (by exact .d _)) .nil)), ?_⟩
                rw [hz, hr]; rfl
      ·
        (try simp only [decide_eq_true_eq, decide_eq_false_iff_not, Bool.and_eq_true, Bool.or_eq_true, Bool.and_eq_false_iff, Bool.or_eq_false_iff, Bool.not_eq_true', Bool.not_eq_false', Bool.not_true, Bool.not_false, bif_and, bif_or, Bool.not_not, ne_eq, Decidable.not_not, not_true_eq_false, not_false_eq_true, Int.not_le, Int.not_lt] at hc9)
        have hdn : ¬ x.dn = true := by rw [hc9]; decide
        have hdo : dpO g x = x.ce.tmod g.co := by unfold dpO; rw [if_neg hdn]
        have hdN : dpN g x = g.co := by unfold dpN; rw [if_neg hdn]
        have hkp : ∀ n : Int, -1000 ≤ n → n ≤ 1000 → PC Tryz.prog 121 [.v (.int .i64 (n)), .pt [.v (.int .i64 (g.co))] 0, .pt (fdC g pw) 0, .pt [.fn (.func 119) [.pt [.v (.int .i64 (x.ce.tdiv g.co))] 0, .pt (fdC g pw) 0]] 0, .pt (drpC x) 0] (.v (.bool (kpB g pw x n))) := fun n h1 h2 => drop3_p g pw x n (g.co) 119 [.pt [.v (.int .i64 (x.ce.tdiv g.co))] 0, .pt (fdC g pw) 0] hfk hd0 hdN.symm en119 (by have h := drop1_p g pw n (x.ce.tdiv g.co) hg ⟨h1, h2⟩ (by omega); have e : dpA g x n = x.ce.tdiv g.co * g.co + n := by { unfold dpA; rw [if_neg hdn] }; rw [e]; exact h)
        refine awp_skip ?_
        change Awp _ _ _ _ _
        refine awp_seq ?_
        refine Awp.le (le_freeze 14 14 0 rfl rfl rfl rfl hmine) ?_
        refine Awp.le (le_freeze 15 15 0 rfl rfl rfl rfl hmine) ?_
        refine awp_region 2 mixed (by kernel_rfl) ?_
        refine rg_q (q_makeFunc (.cons rfl (.cons rfl (.cons rfl (.cons rfl .nil))))) ?_
        refine rg_q (q_assign (x := .d (.fn _ _)) rfl) ?_
        refine rg_nil ?_
        refine aops_nil ?_
        change Awp _ _ _ _ _
        refine awp_seq ?_
        refine awp_region 3 mixed (by kernel_rfl) ?_
        refine rg_q (q_move (x := .d (.v _)) rfl) ?_
        refine rg_q (q_move (x := .d (.v _)) rfl) ?_
        refine rg_q (q_build (cs := [_, _]) pl56 zr56 rfl (.cons rfl (by exact .inl rfl) (.cons rfl (by exact .inl rfl) .nil)) ⟨⟨rfl, by decide⟩, ⟨rfl, by decide⟩, trivial⟩ rfl) ?_
        refine rg_nil ?_
        refine aops_alloc zr56 rfl rfl rfl ?_
        refine aops_store sz56 rfl rfl (by exact .inr ⟨_, rfl⟩) rfl rfl (by decide) rfl ?_
        refine aops_nil ?_
        change Awp _ _ _ _ _
        refine awp_seq ?_
        refine awp_block ?_
        refine awp_loopH [87, 88, 89, 90, 91, 92, 93, 94, 95] [17] (α := Nat) (fun i => []) (fun i => [(17, .box [.v (.int .i64 (dpO g x - (i : Int))), .v (.int .i64 (dpO g x))])]) (fun i => (i : Int) ≤ dpO g x ∧ dpDn (kpB g pw x) 40 (dpO g x) = dpDn (kpB g pw x) (40 - i) (dpO g x - (i : Int))) (fun i => 40 - i) 0 ⟨(by show ((0 : Nat) : Int) ≤ dpO g x; omega), by simp⟩ ?_ ?_
        · exact le_head (ms := [17]) (by repeat (exact Out.refl _)) trivial ⟨(by (exact bx2 (by omega) (by omega))), trivial⟩ rfl rfl rfl rfl
        ·
          intro i ⟨hi, hh⟩
          refine awp_seq ?_
          refine awp_seq ?_
          refine awp_region 5 mixed (by kernel_rfl) ?_
          refine rg_q (q_move (x := .d (.fn _ _)) rfl) ?_
          refine rg_q (q_fieldAddr_ref fld56_0 rfl) ?_
          refine rg_q (q_load_ref sz3 rfl rfl rfl) ?_
          refine rg_q (q_sub rfl rfl (In64.mk (by omega) (by omega))) ?_
          refine rg_q (q_callC en121 rfl (.cons rfl .nil) ((hkp _ (by omega) (by omega)))) ?_
          refine rg_nil ?_
          refine aops_nil ?_
          change Awp _ _ _ _ _
          refine awp_cond rfl (fun hc13 => ?_) (fun hc13 => ?_)
          ·
            (try simp only [decide_eq_true_eq, decide_eq_false_iff_not, Bool.and_eq_true, Bool.or_eq_true, Bool.and_eq_false_iff, Bool.or_eq_false_iff, Bool.not_eq_true', Bool.not_eq_false', Bool.not_true, Bool.not_false, bif_and, bif_or, Bool.not_not, ne_eq, Decidable.not_not, not_true_eq_false, not_false_eq_true, Int.not_le, Int.not_lt] at hc13)
            have hki := kpB_in hc13
            have hi40 : i < 40 := by omega
            rw [dpDn_t hi40 hc13] at hh
            refine awp_skip ?_
            change Awp _ _ _ _ _
            refine awp_block ?_
            refine awp_region 4 mixed (by kernel_rfl) ?_
            refine rg_q (q_fieldAddr_ref fld56_0 rfl) ?_
            refine rg_q (q_load_ref sz3 rfl rfl rfl) ?_
            refine rg_q (q_sub rfl rfl (In64.mk (by omega) (by omega))) ?_
            refine rg_q (q_fieldAddr_ref fld56_0 rfl) ?_
            refine rg_nil ?_
            refine aops_store sz3 rfl rfl (by exact .inl rfl) rfl rfl (by simp; done) rfl ?_
            refine aops_nil ?_
            refine ⟨i + 1, ⟨by omega, by rw [hh]; congr 1; omega⟩, by omega, ?_⟩
            exact le_head (ms := [17]) (by repeat (first | exact Out.head rfl rfl | (refine Out.put ?_ rfl) | (refine Out.site ?_ rfl))) trivial ⟨(by (exact bx2 (by omega) (by omega))), trivial⟩ rfl rfl rfl rfl
          ·
            (try simp only [decide_eq_true_eq, decide_eq_false_iff_not, Bool.and_eq_true, Bool.or_eq_true, Bool.and_eq_false_iff, Bool.or_eq_false_iff, Bool.not_eq_true', Bool.not_eq_false', Bool.not_true, Bool.not_false, bif_and, bif_or, Bool.not_not, ne_eq, Decidable.not_not, not_true_eq_false, not_false_eq_true, Int.not_le, Int.not_lt] at hc13)
            have hi40 : i < 40 := by omega
            rw [dpDn_f hi40 hc13] at hh
            refine awp_exit ?_
            change Awp _ _ _ _ _
            refine awp_seq ?_
            refine awp_block ?_
            refine awp_loopH [96, 97, 98, 99, 100, 101, 102, 103, 104] [17] (α := Nat) (fun j => []) (fun j => [(17, .box [.v (.int .i64 (dpO g x - (i : Int))), .v (.int .i64 (dpO g x + (j : Int)))])]) (fun j => dpO g x + (j : Int) ≤ dpN g x - 1 ∧ dpUp (kpB g pw x) 40 (dpO g x) = dpUp (kpB g pw x) (40 - j) (dpO g x + (j : Int))) (fun j => 40 - j) 0 ⟨(by show dpO g x + ((0 : Nat) : Int) ≤ dpN g x - 1; omega), by simp⟩ ?_ ?_
            · exact le_head (ms := [17]) (by repeat (exact Out.refl _)) trivial ⟨(by (exact bx2 (by omega) (by omega))), trivial⟩ rfl rfl rfl rfl
            ·
              intro j ⟨hj, hu⟩
              refine awp_seq ?_
              refine awp_seq ?_
              refine awp_region 5 mixed (by kernel_rfl) ?_
              refine rg_q (q_move (x := .d (.fn _ _)) rfl) ?_
              refine rg_q (q_fieldAddr_ref fld56_1 rfl) ?_
              refine rg_q (q_load_ref sz3 rfl rfl rfl) ?_
              refine rg_q (q_add rfl rfl (In64.mk (by omega) (by omega))) ?_
              refine rg_q (q_callC en121 rfl (.cons rfl .nil) ((hkp _ (by omega) (by omega)))) ?_
              refine rg_nil ?_
              refine aops_nil ?_
              change Awp _ _ _ _ _
              refine awp_cond rfl (fun hc15 => ?_) (fun hc15 => ?_)
              ·
                (try simp only [decide_eq_true_eq, decide_eq_false_iff_not, Bool.and_eq_true, Bool.or_eq_true, Bool.and_eq_false_iff, Bool.or_eq_false_iff, Bool.not_eq_true', Bool.not_eq_false', Bool.not_true, Bool.not_false, bif_and, bif_or, Bool.not_not, ne_eq, Decidable.not_not, not_true_eq_false, not_false_eq_true, Int.not_le, Int.not_lt] at hc15)
                have hkj := kpB_in hc15
                have hj40 : j < 40 := by omega
                rw [dpUp_t hj40 hc15] at hu
                refine awp_skip ?_
                change Awp _ _ _ _ _
                refine awp_block ?_
                refine awp_region 4 mixed (by kernel_rfl) ?_
                refine rg_q (q_fieldAddr_ref fld56_1 rfl) ?_
                refine rg_q (q_load_ref sz3 rfl rfl rfl) ?_
                refine rg_q (q_add rfl rfl (In64.mk (by omega) (by omega))) ?_
                refine rg_q (q_fieldAddr_ref fld56_1 rfl) ?_
                refine rg_nil ?_
                refine aops_store sz3 rfl rfl (by exact .inl rfl) rfl rfl (by simp; done) rfl ?_
                refine aops_nil ?_
                refine ⟨j + 1, ⟨by omega, by rw [hu]; congr 1; omega⟩, by omega, ?_⟩
                exact le_head (ms := [17]) (by repeat (first | exact Out.head rfl rfl | (refine Out.put ?_ rfl) | (refine Out.site ?_ rfl))) trivial ⟨(by (exact bx2 (by omega) (by omega))), trivial⟩ rfl rfl rfl rfl
              ·
                (try simp only [decide_eq_true_eq, decide_eq_false_iff_not, Bool.and_eq_true, Bool.or_eq_true, Bool.and_eq_false_iff, Bool.or_eq_false_iff, Bool.not_eq_true', Bool.not_eq_false', Bool.not_true, Bool.not_false, bif_and, bif_or, Bool.not_not, ne_eq, Decidable.not_not, not_true_eq_false, not_false_eq_true, Int.not_le, Int.not_lt] at hc15)
                have hj40 : j < 40 := by omega
                rw [dpUp_f hj40 hc15] at hu
                have hr : dpR g pw x = (dpO g x - (i : Int), dpO g x + (j : Int)) := by unfold dpR; rw [hh, hu]
                refine awp_exit ?_
                change Awp _ _ _ _ _
                refine awp_seq ?_
                refine awp_region 1 mixed (by kernel_rfl) ?_
                refine rg_q (q_load_refA (ds := [_, _]) sz56 rfl rfl rfl rfl) ?_
                refine rg_nil ?_
                refine aops_store sz56 rfl rfl (by exact .inr ⟨_, rfl⟩) rfl rfl (by decide) rfl ?_
                refine aops_q rfl (q_assign (x := .d (.v _)) rfl) ?_
                refine aops_nil ?_
                change Awp _ _ _ _ _
                refine awp_ret ?_
                refine ⟨_, (.cons (.cellA rfl rfl sz56 rfl) (.cons (.tmp (by exact .d _)) .nil)), ?_⟩
                rw [hz, hr]; rfl

def smB (g : Grd) : Bool := if inR 1 g.co 40 = true ∧ inR 1 g.ro 40 = true then decide (g.co * g.ro ≤ 12) else true
theorem kp_t {g : Grd} {pw : List Int} {x : Drp} {n : Int} (h : 0 ≤ n ∧ n ≤ dpN g x - 1) (h2 : pwA pw x.ce * x.nu ≤ pwA pw (dpA g x n) * x.de) : kpB g pw x n = true := by
  unfold kpB kpC; rw [inR_iff.2 h, decide_eq_true h2]; rfl
theorem kp_f {g : Grd} {pw : List Int} {x : Drp} {n : Int} (h : (0 ≤ n ∧ n ≤ dpN g x - 1) → pwA pw (dpA g x n) * x.de < pwA pw x.ce * x.nu) : kpB g pw x n = false := by
  unfold kpB kpC
  cases q : inR 0 n (dpN g x - 1) with
  | false => rfl
  | true => show decide _ = false; exact decide_eq_false (by have := h (inR_iff.1 q); omega)
set_option maxRecDepth 100000 in
theorem small_p (g : Grd) : PC Tryz.prog 40 [.agg (grdC g)] (.v (.bool (smB g))) := by
  refine pc_of_awpN Tryz.func40 rfl Tryz.ntmps40 (rs := [.tmp 2]) Tryz.results40 (by simp) fun w0 hmine hrnd hpn => ?_
  refine awp_seq ?_
  refine awp_region 2 mixed (by kernel_rfl) ?_
  refine rg_q (q_box rfl (by exact .inr ⟨_, rfl⟩)) ?_
  refine rg_q (q_assign (x := .d (.v _)) rfl) ?_
  refine rg_nil ?_
  refine aops_nil ?_
  change Awp _ _ _ _ _
  refine awp_seq ?_
  refine awp_seq ?_
  refine awp_region 10 mixed (by kernel_rfl) ?_
  refine rg_q (q_fieldAddr fld35_1 rfl) ?_
  refine rg_q (q_load sz3 rfl rfl) ?_
  refine rg_q (q_call en31 (.cons rfl (.cons rfl (.cons rfl .nil))) rfl (within4_p _ _ _)) ?_
  refine rg_q (q_not rfl) ?_
  refine rg_q (q_move (x := .d (.v _)) rfl) ?_
  refine rg_g rfl rfl (fun hG => (q_fieldAddr fld35_2 rfl)) ?_
  refine rg_g rfl rfl (fun hG => (q_load sz3 rfl rfl)) ?_
  refine rg_g rfl rfl (fun hG => (q_call en31 (.cons rfl (.cons rfl (.cons rfl .nil))) rfl (within4_p _ _ _))) ?_
  refine rg_g rfl rfl (fun hG => (q_not rfl)) ?_
  refine rg_pick rfl rfl rfl rfl rfl rfl ?_
  refine rg_nil ?_
  refine aops_nil ?_
  change Awp _ _ _ _ _
  refine awp_cond rfl (fun hc1 => ?_) (fun hc1 => ?_)
  ·
    (try simp only [decide_eq_true_eq, decide_eq_false_iff_not, Bool.and_eq_true, Bool.or_eq_true, Bool.and_eq_false_iff, Bool.or_eq_false_iff, Bool.not_eq_true', Bool.not_eq_false', Bool.not_true, Bool.not_false, bif_and, bif_or, Bool.not_not, ne_eq, Decidable.not_not, not_true_eq_false, not_false_eq_true, Int.not_le, Int.not_lt] at hc1)
    have hz : smB g = true := by unfold smB; rw [if_neg (by rintro ⟨a, b⟩; rcases hc1 with q | q <;> simp_all)]
    refine awp_seq ?_
    refine awp_region 1 mixed (by kernel_rfl) ?_
    refine rg_q (q_assign (x := .d (.v _)) rfl) ?_
    refine rg_nil ?_
    refine aops_nil ?_
    change Awp _ _ _ _ _
    refine awp_ret ?_
    refine ⟨_, (.cons (.tmp (by exact .d _)) .nil), ?_⟩
    rw [hz]; rfl
  ·
    (try simp only [decide_eq_true_eq, decide_eq_false_iff_not, Bool.and_eq_true, Bool.or_eq_true, Bool.and_eq_false_iff, Bool.or_eq_false_iff, Bool.not_eq_true', Bool.not_eq_false', Bool.not_true, Bool.not_false, bif_and, bif_or, Bool.not_not, ne_eq, Decidable.not_not, not_true_eq_false, not_false_eq_true, Int.not_le, Int.not_lt] at hc1)
    have hz : smB g = decide (g.co * g.ro ≤ 12) := by unfold smB; rw [if_pos hc1]
    obtain ⟨a1, a2⟩ := inR_iff.1 hc1.1
    obtain ⟨a3, a4⟩ := inR_iff.1 hc1.2
    have hm := mulb (a := g.co) (b := g.ro) (A := 40) (B := 40) (by omega) (by omega) (by omega) (by omega)
    refine awp_skip ?_
    change Awp _ _ _ _ _
    refine awp_seq ?_
    refine awp_region 7 mixed (by kernel_rfl) ?_
    refine rg_q (q_fieldAddr fld35_1 rfl) ?_
    refine rg_q (q_load sz3 rfl rfl) ?_
    refine rg_q (q_fieldAddr fld35_2 rfl) ?_
    refine rg_q (q_load sz3 rfl rfl) ?_
    refine rg_q (q_mul rfl rfl (In64.mk (by omega) (by omega))) ?_
    refine rg_q (q_leq rfl rfl) ?_
    refine rg_q (q_assign (x := .d (.v _)) rfl) ?_
    refine rg_nil ?_
    refine aops_nil ?_
    change Awp _ _ _ _ _
    refine awp_ret ?_
    refine ⟨_, (.cons (.tmp (by exact .d _)) .nil), ?_⟩
    rw [hz]; rfl
set_option maxRecDepth 100000 in
theorem rpowersErr_p (g : Grd) (pw : List Int) : PC Tryz.prog 43 [.agg (grdC g), .sl 1 (pw.map iC)] (.v (.int .i64 (ofE g pw))) := by
  refine pc_of_awpN Tryz.func43 rfl Tryz.ntmps43 (rs := [.tmp 4]) Tryz.results43 (by simp) fun w0 hmine hrnd hpn => ?_
  refine awp_seq ?_
  refine awp_region 2 mixed (by kernel_rfl) ?_
  refine rg_q (q_box rfl (by exact .inr ⟨_, rfl⟩)) ?_
  refine rg_q (q_assign (x := .d (.v _)) rfl) ?_
  refine rg_nil ?_
  refine aops_nil ?_
  change Awp _ _ _ _ _
  refine awp_seq ?_
  refine awp_seq ?_
  refine awp_region 3 mixed (by kernel_rfl) ?_
  refine rg_q (q_loadA (ds := [_, _, _, _, _]) sz35 rfl rfl rfl) ?_
  refine rg_q (q_call en74 (.cons rfl .nil) rfl (rcheckGrid_p _)) ?_
  refine rg_q (q_assign (x := .d (.v _)) rfl) ?_
  refine rg_nil ?_
  refine aops_nil ?_
  change Awp _ _ _ _ _
  refine awp_seq ?_
  refine awp_region 2 mixed (by kernel_rfl) ?_
  refine rg_q (q_move (x := .d (.v _)) rfl) ?_
  refine rg_q (q_neq rfl rfl) ?_
  refine rg_nil ?_
  refine aops_nil ?_
  change Awp _ _ _ _ _
  refine awp_cond rfl (fun hc2 => ?_) (fun hc2 => ?_)
  ·
    (try simp only [decide_eq_true_eq, decide_eq_false_iff_not, Bool.and_eq_true, Bool.or_eq_true, Bool.and_eq_false_iff, Bool.or_eq_false_iff, Bool.not_eq_true', Bool.not_eq_false', Bool.not_true, Bool.not_false, bif_and, bif_or, Bool.not_not, ne_eq, Decidable.not_not, not_true_eq_false, not_false_eq_true, Int.not_le, Int.not_lt] at hc2)
    have hz : ofE g pw = ckG g := by unfold ofE; rw [if_pos hc2]
    refine awp_seq ?_
    refine awp_region 2 mixed (by kernel_rfl) ?_
    refine rg_q (q_move (x := .d (.v _)) rfl) ?_
    refine rg_q (q_assign (x := .d (.v _)) rfl) ?_
    refine rg_nil ?_
    refine aops_nil ?_
    change Awp _ _ _ _ _
    refine awp_ret ?_
    refine ⟨_, (.cons (.tmp (by exact .d _)) .nil), ?_⟩
    rw [hz]; rfl
  ·
    (try simp only [decide_eq_true_eq, decide_eq_false_iff_not, Bool.and_eq_true, Bool.or_eq_true, Bool.and_eq_false_iff, Bool.or_eq_false_iff, Bool.not_eq_true', Bool.not_eq_false', Bool.not_true, Bool.not_false, bif_and, bif_or, Bool.not_not, ne_eq, Decidable.not_not, not_true_eq_false, not_false_eq_true, Int.not_le, Int.not_lt] at hc2)
    have hg0 : ckG g = 0 := hc2
    obtain ⟨hg, _, _⟩ := ckG_ok hg0
    have hci := cells_in hg
    refine awp_skip ?_
    change Awp _ _ _ _ _
    refine awp_seq ?_
    refine awp_seq ?_
    refine awp_region 5 mixed (by kernel_rfl) ?_
    refine rg_q (q_move (x := .d (.sl _ _)) rfl) ?_
    refine rg_q (q_len isl77 rfl (by exact len_map _ _)) ?_
    refine rg_q (q_loadA (ds := [_, _, _, _, _]) sz35 rfl rfl rfl) ?_
    refine rg_q (q_call en56 (.cons rfl .nil) rfl (rcells_p _ (by assumption))) ?_
    refine rg_q (q_neq rfl rfl) ?_
    refine rg_nil ?_
    refine aops_nil ?_
    change Awp _ _ _ _ _
    refine awp_len (t := 12) rfl (fun hl12 => ?_)
    (try simp only [List.length_map] at hl12)
    refine awp_cond rfl (fun hc4 => ?_) (fun hc4 => ?_)
    ·
      (try simp only [decide_eq_true_eq, decide_eq_false_iff_not, Bool.and_eq_true, Bool.or_eq_true, Bool.and_eq_false_iff, Bool.or_eq_false_iff, Bool.not_eq_true', Bool.not_eq_false', Bool.not_true, Bool.not_false, bif_and, bif_or, Bool.not_not, ne_eq, Decidable.not_not, not_true_eq_false, not_false_eq_true, Int.not_le, Int.not_lt] at hc4)
      have hz : ofE g pw = 10 := by unfold ofE; rw [if_neg (fun q => q hg0), if_pos (by simpa using hc4)]
      refine awp_seq ?_
      refine awp_region 1 mixed (by kernel_rfl) ?_
      refine rg_q (q_assign (x := .d (.v _)) rfl) ?_
      refine rg_nil ?_
      refine aops_nil ?_
      change Awp _ _ _ _ _
      refine awp_ret ?_
      refine ⟨_, (.cons (.tmp (by exact .d _)) .nil), ?_⟩
      rw [hz]; rfl
    ·
      (try simp only [decide_eq_true_eq, decide_eq_false_iff_not, Bool.and_eq_true, Bool.or_eq_true, Bool.and_eq_false_iff, Bool.or_eq_false_iff, Bool.not_eq_true', Bool.not_eq_false', Bool.not_true, Bool.not_false, bif_and, bif_or, Bool.not_not, ne_eq, Decidable.not_not, not_true_eq_false, not_false_eq_true, Int.not_le, Int.not_lt] at hc4)
      have hz0 : ofE g pw = whenI (pw.any pwB) 2 := by unfold ofE; rw [if_neg (fun q => q hg0), if_neg (by simpa using hc4)]
      refine awp_skip ?_
      change Awp _ _ _ _ _
      refine awp_seq ?_
      refine awp_seq ?_
      refine awp_region 1 mixed (by kernel_rfl) ?_
      refine rg_q (q_assign (x := .d (.v _)) rfl) ?_
      refine rg_nil ?_
      refine aops_nil ?_
      change Awp _ _ _ _ _
      refine awp_block ?_
      refine awp_loopH [4, 6, 17, 18, 19, 20, 21, 22, 23, 24, 25, 26, 27, 28] [] (α := Nat) (fun k => [(6, T.i (k : Int))]) (fun k => []) (fun k => k ≤ pw.length ∧ (pw.take k).any pwB = false) (fun k => pw.length - k) 0 ⟨Nat.zero_le _, by simp⟩ ?_ ?_
      · exact le_head (ms := []) (by repeat (exact Out.refl _)) ⟨(by rfl), trivial⟩ trivial rfl rfl rfl rfl
      ·
        intro k ⟨hk, hf⟩
        refine awp_seq ?_
        refine awp_seq ?_
        refine awp_region 4 mixed (by kernel_rfl) ?_
        refine rg_q (q_move (x := .d (.v _)) rfl) ?_
        refine rg_q (q_move (x := .d (.sl _ _)) rfl) ?_
        refine rg_q (q_len isl77 rfl (by exact len_map _ _)) ?_
        refine rg_q (q_lss rfl rfl) ?_
        refine rg_nil ?_
        refine aops_nil ?_
        change Awp _ _ _ _ _
        refine awp_len (t := 18) rfl (fun hl18 => ?_)
        (try simp only [List.length_map] at hl18)
        refine awp_cond rfl (fun hc7 => ?_) (fun hc7 => ?_)
        ·
          (try simp only [decide_eq_true_eq, decide_eq_false_iff_not, Bool.and_eq_true, Bool.or_eq_true, Bool.and_eq_false_iff, Bool.or_eq_false_iff, Bool.not_eq_true', Bool.not_eq_false', Bool.not_true, Bool.not_false, bif_and, bif_or, Bool.not_not, ne_eq, Decidable.not_not, not_true_eq_false, not_false_eq_true, Int.not_le, Int.not_lt] at hc7)
          have hlt : k < pw.length := by omega
          obtain ⟨v, hx⟩ : ∃ v, pw[k]? = some v := ⟨_, List.getElem?_eq_getElem hlt⟩
          refine awp_skip ?_
          change Awp _ _ _ _ _
          refine awp_seq ?_
          refine awp_block ?_
          refine awp_seq ?_
          refine awp_region 6 mixed (by kernel_rfl) ?_
          refine rg_q (q_move (x := .d (.sl _ _)) rfl) ?_
          refine rg_q (q_move (x := .d (.v _)) rfl) ?_
          refine rg_q (q_indexAddr sl77 rfl rfl (by omega) (map_at (by omega) hx)) ?_
          refine rg_q (q_load sz3 rfl rfl) ?_
          refine rg_q (q_call en31 (.cons rfl (.cons rfl (.cons rfl .nil))) rfl (within4_p _ _ _)) ?_
          refine rg_q (q_not rfl) ?_
          refine rg_nil ?_
          refine aops_nil ?_
          change Awp _ _ _ _ _
          refine awp_cond rfl (fun hc9 => ?_) (fun hc9 => ?_)
          ·
            (try simp only [decide_eq_true_eq, decide_eq_false_iff_not, Bool.and_eq_true, Bool.or_eq_true, Bool.and_eq_false_iff, Bool.or_eq_false_iff, Bool.not_eq_true', Bool.not_eq_false', Bool.not_true, Bool.not_false, bif_and, bif_or, Bool.not_not, ne_eq, Decidable.not_not, not_true_eq_false, not_false_eq_true, Int.not_le, Int.not_lt] at hc9)
            have hz : ofE g pw = 2 := by rw [hz0, List.any_eq_true.2 ⟨v, List.mem_of_getElem? hx, by unfold pwB; rw [hc9]; rfl⟩]; rfl
            refine awp_seq ?_
            refine awp_region 1 mixed (by kernel_rfl) ?_
            refine rg_q (q_assign (x := .d (.v _)) rfl) ?_
            refine rg_nil ?_
            refine aops_nil ?_
            change Awp _ _ _ _ _
            refine awp_ret ?_
            refine ⟨_, (.cons (.tmp (by exact .d _)) .nil), ?_⟩
            rw [hz]; rfl
          ·
            (try simp only [decide_eq_true_eq, decide_eq_false_iff_not, Bool.and_eq_true, Bool.or_eq_true, Bool.and_eq_false_iff, Bool.or_eq_false_iff, Bool.not_eq_true', Bool.not_eq_false', Bool.not_true, Bool.not_false, bif_and, bif_or, Bool.not_not, ne_eq, Decidable.not_not, not_true_eq_false, not_false_eq_true, Int.not_le, Int.not_lt] at hc9)
            have hnx : (pw.take (k + 1)).any pwB = false := by rw [takeSnoc hx]; exact anySnoc hf (by unfold pwB; rw [hc9]; rfl)
            refine awp_skip ?_
            change Awp _ _ _ _ _
            refine awp_region 3 mixed (by kernel_rfl) ?_
            refine rg_q (q_move (x := .d (.v _)) rfl) ?_
            refine rg_q (q_add rfl rfl (In64.mk (by omega) (by omega))) ?_
            refine rg_q (q_assign (x := .d (.v _)) rfl) ?_
            refine rg_nil ?_
            refine aops_nil ?_
            refine ⟨k + 1, ⟨by omega, hnx⟩, by omega, ?_⟩
            exact le_head (ms := []) (by repeat (first | exact Out.head rfl rfl | (refine Out.put ?_ rfl))) ⟨(by rfl), trivial⟩ trivial rfl rfl rfl rfl
        ·
          (try simp only [decide_eq_true_eq, decide_eq_false_iff_not, Bool.and_eq_true, Bool.or_eq_true, Bool.and_eq_false_iff, Bool.or_eq_false_iff, Bool.not_eq_true', Bool.not_eq_false', Bool.not_true, Bool.not_false, bif_and, bif_or, Bool.not_not, ne_eq, Decidable.not_not, not_true_eq_false, not_false_eq_true, Int.not_le, Int.not_lt] at hc7)
          have hz : ofE g pw = 0 := by rw [hz0, ← List.take_length (l := pw), ← show k = pw.length from by omega, hf]; rfl
          refine awp_exit ?_
          change Awp _ _ _ _ _
          refine awp_seq ?_
          refine awp_region 1 mixed (by kernel_rfl) ?_
          refine rg_q (q_assign (x := .d (.v _)) rfl) ?_
          refine rg_nil ?_
          refine aops_nil ?_
          change Awp _ _ _ _ _
          refine awp_ret ?_
          refine ⟨_, (.cons (.tmp (by exact .d _)) .nil), ?_⟩
          rw [hz]; rfl
set_option maxRecDepth 100000 in
theorem rdropErr_p (g : Grd) (x : Drp) (hg : GrdOk g) : PC Tryz.prog 44 [.agg (grdC g), .agg (drpC x)] (.v (.int .i64 (drE g x))) := by
  refine pc_of_awpN Tryz.func44 rfl Tryz.ntmps44 (rs := [.tmp 4]) Tryz.results44 (by simp) fun w0 hmine hrnd hpn => ?_
  refine awp_seq ?_
  refine awp_region 3 mixed (by kernel_rfl) ?_
  refine rg_q (q_box rfl (by exact .inr ⟨_, rfl⟩)) ?_
  refine rg_q (q_box rfl (by exact .inr ⟨_, rfl⟩)) ?_
  refine rg_q (q_assign (x := .d (.v _)) rfl) ?_
  refine rg_nil ?_
  refine aops_nil ?_
  change Awp _ _ _ _ _
  refine awp_seq ?_
  refine awp_seq ?_
  refine awp_region 5 mixed (by kernel_rfl) ?_
  refine rg_q (q_loadA (ds := [_, _, _, _, _]) sz35 rfl rfl rfl) ?_
  refine rg_q (q_fieldAddr fld79_0 rfl) ?_
  refine rg_q (q_load sz3 rfl rfl) ?_
  refine rg_q (q_call en25 (.cons rfl (.cons rfl .nil)) rfl (risCell_p _ _ (by assumption))) ?_
  refine rg_q (q_not rfl) ?_
  refine rg_nil ?_
  refine aops_nil ?_
  change Awp _ _ _ _ _
  refine awp_cond rfl (fun hc1 => ?_) (fun hc1 => ?_)
  ·
    (try simp only [decide_eq_true_eq, decide_eq_false_iff_not, Bool.and_eq_true, Bool.or_eq_true, Bool.and_eq_false_iff, Bool.or_eq_false_iff, Bool.not_eq_true', Bool.not_eq_false', Bool.not_true, Bool.not_false, bif_and, bif_or, Bool.not_not, ne_eq, Decidable.not_not, not_true_eq_false, not_false_eq_true, Int.not_le, Int.not_lt] at hc1)
    have hcl : clE g x.ce = 6 := by unfold clE; rw [hc1]; rfl
    have hz : drE g x = 6 := by unfold drE; rw [hcl]; rfl
    refine awp_seq ?_
    refine awp_region 1 mixed (by kernel_rfl) ?_
    refine rg_q (q_assign (x := .d (.v _)) rfl) ?_
    refine rg_nil ?_
    refine aops_nil ?_
    change Awp _ _ _ _ _
    refine awp_ret ?_
    refine ⟨_, (.cons (.tmp (by exact .d _)) .nil), ?_⟩
    rw [hz]; rfl
  ·
    (try simp only [decide_eq_true_eq, decide_eq_false_iff_not, Bool.and_eq_true, Bool.or_eq_true, Bool.and_eq_false_iff, Bool.or_eq_false_iff, Bool.not_eq_true', Bool.not_eq_false', Bool.not_true, Bool.not_false, bif_and, bif_or, Bool.not_not, ne_eq, Decidable.not_not, not_true_eq_false, not_false_eq_true, Int.not_le, Int.not_lt] at hc1)
    have hcl : clE g x.ce = 0 := by unfold clE; rw [hc1]; rfl
    have hz0 : drE g x = whenI (drB x) 2 := by unfold drE; rw [hcl]; by_cases q : whenI (drB x) 2 = 0 <;> simp [firstE, q]
    refine awp_skip ?_
    change Awp _ _ _ _ _
    refine awp_seq ?_
    refine awp_seq ?_
    refine awp_region 12 mixed (by kernel_rfl) ?_
    refine rg_q (q_fieldAddr fld79_3 rfl) ?_
    refine rg_q (q_load sz3 rfl rfl) ?_
    refine rg_q (q_call en31 (.cons rfl (.cons rfl (.cons rfl .nil))) rfl (within4_p _ _ _)) ?_
    refine rg_q (q_not rfl) ?_
    refine rg_q (q_move (x := .d (.v _)) rfl) ?_
    refine rg_g rfl rfl (fun hG => (q_fieldAddr fld79_2 rfl)) ?_
    refine rg_g rfl rfl (fun hG => (q_load sz3 rfl rfl)) ?_
    refine rg_g rfl rfl (fun hG => (q_fieldAddr fld79_3 rfl)) ?_
    refine rg_g rfl rfl (fun hG => (q_load sz3 rfl rfl)) ?_
    refine rg_g rfl rfl (fun hG => (q_call en31 (.cons rfl (.cons rfl (.cons rfl .nil))) rfl (within4_p _ _ _))) ?_
    refine rg_g rfl rfl (fun hG => (q_not rfl)) ?_
    refine rg_pick rfl rfl rfl rfl rfl rfl ?_
    refine rg_nil ?_
    refine aops_nil ?_
    change Awp _ _ _ _ _
    refine awp_cond rfl (fun hc3 => ?_) (fun hc3 => ?_)
    ·
      (try simp only [decide_eq_true_eq, decide_eq_false_iff_not, Bool.and_eq_true, Bool.or_eq_true, Bool.and_eq_false_iff, Bool.or_eq_false_iff, Bool.not_eq_true', Bool.not_eq_false', Bool.not_true, Bool.not_false, bif_and, bif_or, Bool.not_not, ne_eq, Decidable.not_not, not_true_eq_false, not_false_eq_true, Int.not_le, Int.not_lt] at hc3)
      have hb : drB x = true := by
        unfold drB
        simp only [bif_or, Bool.or_eq_true, decide_eq_true_eq]
        rcases hc3 with q | q <;> (simp [inR] at q; omega)
      have hz : drE g x = 2 := by rw [hz0, hb]; rfl
      refine awp_seq ?_
      refine awp_region 1 mixed (by kernel_rfl) ?_
      refine rg_q (q_assign (x := .d (.v _)) rfl) ?_
      refine rg_nil ?_
      refine aops_nil ?_
      change Awp _ _ _ _ _
      refine awp_ret ?_
      refine ⟨_, (.cons (.tmp (by exact .d _)) .nil), ?_⟩
      rw [hz]; rfl
    ·
      (try simp only [decide_eq_true_eq, decide_eq_false_iff_not, Bool.and_eq_true, Bool.or_eq_true, Bool.and_eq_false_iff, Bool.or_eq_false_iff, Bool.not_eq_true', Bool.not_eq_false', Bool.not_true, Bool.not_false, bif_and, bif_or, Bool.not_not, ne_eq, Decidable.not_not, not_true_eq_false, not_false_eq_true, Int.not_le, Int.not_lt] at hc3)
      have hb : drB x = false := by
        obtain ⟨u1, u2⟩ := hc3
        have v1 := inR_iff.1 u1
        have v2 := inR_iff.1 u2
        unfold drB
        simp only [bif_or, Bool.or_eq_false_iff, decide_eq_false_iff_not]
        omega
      have hz : drE g x = 0 := by rw [hz0, hb]; rfl
      refine awp_skip ?_
      change Awp _ _ _ _ _
      refine awp_seq ?_
      refine awp_region 1 mixed (by kernel_rfl) ?_
      refine rg_q (q_assign (x := .d (.v _)) rfl) ?_
      refine rg_nil ?_
      refine aops_nil ?_
      change Awp _ _ _ _ _
      refine awp_ret ?_
      refine ⟨_, (.cons (.tmp (by exact .d _)) .nil), ?_⟩
      rw [hz]; rfl
set_option maxHeartbeats 4000000 in
theorem rdropOf_p (g : Grd) (pw : List Int) (x : Drp) (hfk : FldOk g pw) (hd0 : drE g x = 0) : PC Tryz.prog 45 [.agg (grdC g), .sl 1 (pw.map iC), .agg (drpC x)] (.agg (shC (dpR g pw x))) := by
  have hg := hfk.gr
  have hci := cells_in hg
  have hlen := hfk.len
  obtain ⟨hcl, n1, n2, n3⟩ := drE_ok hd0
  obtain ⟨q1, q2⟩ := clE_ok hcl
  obtain ⟨⟨m1, m2⟩, ⟨d1, d2⟩, hce⟩ := ce_in hg q1 q2
  obtain ⟨o1, o2, o3, o4⟩ := dpO_in hg hcl
  have c1 := hg.c1
  have c2 := hg.c2
  have r1 := hg.r1
  have r2 := hg.r2
  have hcx := pwA_at (pw := pw) (n := x.ce) q1 (by omega)
  obtain ⟨p3, p4⟩ := pwA_in hfk x.ce
  have hm2 := mulb (a := pwA pw x.ce) (b := x.nu) (A := 1000000000000000) (B := 1000) (by omega) (by omega) (by omega) (by omega)
  have hp2 := mulb (a := x.ce.tdiv g.co) (b := g.co) (A := 100) (B := 40) (by omega) (by omega) (by omega) (by omega)
  refine pc_of_awpN Tryz.func45 rfl Tryz.ntmps45 (rs := [.cell 6 56]) Tryz.results45 (by simp) fun w0 hmine hrnd hpn => ?_
  refine awp_seq ?_
  refine awp_region 2 mixed (by kernel_rfl) ?_
  refine rg_q (q_box rfl (by exact .inr ⟨_, rfl⟩)) ?_
  refine rg_q (q_box rfl (by exact .inr ⟨_, rfl⟩)) ?_
  refine rg_nil ?_
  refine aops_alloc zr56 rfl rfl rfl ?_
  refine aops_nil ?_
  change Awp _ _ _ _ _
  refine awp_seq ?_
  refine awp_region 10 mixed (by kernel_rfl) ?_
  refine rg_q (q_fieldAddr fld79_0 rfl) ?_
  refine rg_q (q_load sz3 rfl rfl) ?_
  refine rg_q (q_fieldAddr fld35_1 rfl) ?_
  refine rg_q (q_load sz3 rfl rfl) ?_
  refine rg_q (q_rem rfl rfl (by omega)) ?_
  refine rg_q (q_fieldAddr fld35_1 rfl) ?_
  refine rg_q (q_load sz3 rfl rfl) ?_
  refine rg_q (q_assign (x := .d (.v _)) rfl) ?_
  refine rg_q (q_assign (x := .d (.v _)) rfl) ?_
  refine rg_q (q_assign (x := .d (.v _)) rfl) ?_
  refine rg_nil ?_
  refine aops_nil ?_
  change Awp _ _ _ _ _
  refine awp_seq ?_
  refine awp_seq ?_
  refine awp_region 2 mixed (by kernel_rfl) ?_
  refine rg_q (q_fieldAddr fld79_1 rfl) ?_
  refine rg_q (q_load sz4 rfl rfl) ?_
  refine rg_nil ?_
  refine aops_nil ?_
  change Awp _ _ _ _ _
  refine awp_cond rfl (fun hc2 => ?_) (fun hc2 => ?_)
  ·
    (try simp only [decide_eq_true_eq, decide_eq_false_iff_not, Bool.and_eq_true, Bool.or_eq_true, Bool.and_eq_false_iff, Bool.or_eq_false_iff, Bool.not_eq_true', Bool.not_eq_false', Bool.not_true, Bool.not_false, bif_and, bif_or, Bool.not_not, ne_eq, Decidable.not_not, not_true_eq_false, not_false_eq_true, Int.not_le, Int.not_lt] at hc2)
    have hdn : x.dn = true := hc2
    have hdo : dpO g x = x.ce.tdiv g.co := by unfold dpO; rw [if_pos hdn]
    have hdN : dpN g x = g.ro := by unfold dpN; rw [if_pos hdn]
    have hix : ∀ m : Int, x.ce - x.ce.tdiv g.co * g.co + m * g.co = dpA g x m := fun m => by unfold dpA; rw [if_pos hdn]; omega
    refine awp_region 12 mixed (by kernel_rfl) ?_
    refine rg_q (q_fieldAddr fld35_1 rfl) ?_
    refine rg_q (q_load sz3 rfl rfl) ?_
    refine rg_q (q_fieldAddr fld79_0 rfl) ?_
    refine rg_q (q_load sz3 rfl rfl) ?_
    refine rg_q (q_fieldAddr fld35_1 rfl) ?_
    refine rg_q (q_load sz3 rfl rfl) ?_
    refine rg_q (q_quo rfl rfl (by omega) (In64.mk (by omega) (by omega))) ?_
    refine rg_q (q_fieldAddr fld35_2 rfl) ?_
    refine rg_q (q_load sz3 rfl rfl) ?_
    refine rg_q (q_assign (x := .d (.v _)) rfl) ?_
    refine rg_q (q_assign (x := .d (.v _)) rfl) ?_
    refine rg_q (q_assign (x := .d (.v _)) rfl) ?_
    refine rg_nil ?_
    refine aops_nil ?_
    change Awp _ _ _ _ _
    refine awp_seq ?_
    refine awp_region 7 mixed (by kernel_rfl) ?_
    refine rg_q (q_fieldAddr fld79_0 rfl) ?_
    refine rg_q (q_load sz3 rfl rfl) ?_
    refine rg_q (q_move (x := .d (.v _)) rfl) ?_
    refine rg_q (q_move (x := .d (.v _)) rfl) ?_
    refine rg_q (q_mul rfl rfl (In64.mk (by omega) (by omega))) ?_
    refine rg_q (q_sub rfl rfl (In64.mk (by omega) (by omega))) ?_
    refine rg_q (q_assign (x := .d (.v _)) rfl) ?_
    refine rg_nil ?_
    refine aops_nil ?_
    change Awp _ _ _ _ _
    refine awp_seq ?_
    refine awp_region 3 mixed (by kernel_rfl) ?_
    refine rg_q (q_move (x := .d (.v _)) rfl) ?_
    refine rg_q (q_move (x := .d (.v _)) rfl) ?_
    refine rg_q (q_build (cs := [_, _]) pl56 zr56 rfl (.cons rfl (by exact .inl rfl) (.cons rfl (by exact .inl rfl) .nil)) ⟨⟨rfl, by decide⟩, ⟨rfl, by decide⟩, trivial⟩ rfl) ?_
    refine rg_nil ?_
    refine aops_alloc zr56 rfl rfl rfl ?_
    refine aops_store sz56 rfl rfl (by exact .inr ⟨_, rfl⟩) rfl rfl (by decide) rfl ?_
    refine aops_nil ?_
    change Awp _ _ _ _ _
    refine awp_seq ?_
    refine awp_block ?_
    refine awp_loopH [39, 40, 41, 42, 43, 44, 45, 46, 47, 48, 49, 50, 51, 52, 53, 54, 55, 56, 57, 58, 59, 60, 61, 62, 63, 64, 65, 66, 67, 68, 69] [11] (α := Nat) (fun i => []) (fun i => [(11, .box [.v (.int .i64 (dpO g x - (i : Int))), .v (.int .i64 (dpO g x))])]) (fun i => (i : Int) ≤ dpO g x ∧ dpDn (kpB g pw x) 40 (dpO g x) = dpDn (kpB g pw x) (40 - i) (dpO g x - (i : Int))) (fun i => 40 - i) 0 ⟨(by show ((0 : Nat) : Int) ≤ dpO g x; omega), by simp⟩ ?_ ?_
    · exact le_head (ms := [11]) (by repeat (exact Out.refl _)) trivial ⟨(by (exact bx2 (by omega) (by omega))), trivial⟩ rfl rfl rfl rfl
    ·
      intro i ⟨hi, hh⟩
      have hb1 : (0 ≤ (dpO g x - (i : Int) - 1) ∧ (dpO g x - (i : Int) - 1) ≤ dpN g x - 1) → (0 ≤ dpA g x (dpO g x - (i : Int) - 1) ∧ dpA g x (dpO g x - (i : Int) - 1) ≤ g.co * g.ro - 1) ∧ pw[(dpA g x (dpO g x - (i : Int) - 1)).toNat]? = some (pwA pw (dpA g x (dpO g x - (i : Int) - 1))) := fun q => by
        have w := dpA_in hg hcl (x := x) (n := (dpO g x - (i : Int) - 1)) (inR_iff.2 q)
        exact ⟨w, pwA_at w.1 (by omega)⟩
      have hixm := hix (dpO g x - (i : Int) - 1)
      obtain ⟨p1, p2⟩ := pwA_in hfk (dpA g x (dpO g x - (i : Int) - 1))
      have hm1 := mulb (a := pwA pw (dpA g x (dpO g x - (i : Int) - 1))) (b := x.de) (A := 1000000000000000) (B := 1000) (by omega) (by omega) (by omega) (by omega)
      have hp1 := mulb (a := (dpO g x - (i : Int) - 1)) (b := g.co) (A := 100) (B := 40) (by omega) (by omega) (by omega) (by omega)
      refine awp_seq ?_
      refine awp_seq ?_
      refine awp_region 27 mixed (by kernel_rfl) ?_
      refine rg_q (q_fieldAddr_ref fld56_0 rfl) ?_
      refine rg_q (q_load_ref sz3 rfl rfl rfl) ?_
      refine rg_q (q_gtr rfl rfl) ?_
      refine rg_q (q_move (x := .d (.v _)) rfl) ?_
      refine rg_g rfl rfl (fun hG => (q_move (x := .d (.sl _ _)) rfl)) ?_
      refine rg_g rfl rfl (fun hG => (q_move (x := .d (.v _)) rfl)) ?_
      refine rg_g rfl rfl (fun hG => (q_fieldAddr_ref fld56_0 rfl)) ?_
      refine rg_g rfl rfl (fun hG => (q_load_ref sz3 rfl rfl rfl)) ?_
      refine rg_g rfl rfl (fun hG => (q_sub rfl rfl (In64.mk (by (have hg0 := T.bool_inj (a := _) hG.1; (try simp only [decide_eq_true_eq, decide_eq_false_iff_not, Bool.and_eq_true, Bool.or_eq_true, Bool.and_eq_false_iff, Bool.or_eq_false_iff, Bool.not_eq_true', Bool.not_eq_false', Bool.not_true, Bool.not_false, bif_and, bif_or, Bool.not_not, ne_eq, Decidable.not_not, not_true_eq_false, not_false_eq_true, Int.not_le, Int.not_lt] at hg0); omega)) (by (have hg0 := T.bool_inj (a := _) hG.1; (try simp only [decide_eq_true_eq, decide_eq_false_iff_not, Bool.and_eq_true, Bool.or_eq_true, Bool.and_eq_false_iff, Bool.or_eq_false_iff, Bool.not_eq_true', Bool.not_eq_false', Bool.not_true, Bool.not_false, bif_and, bif_or, Bool.not_not, ne_eq, Decidable.not_not, not_true_eq_false, not_false_eq_true, Int.not_le, Int.not_lt] at hg0); omega))))) ?_
      refine rg_g rfl rfl (fun hG => (q_move (x := .d (.v _)) rfl)) ?_
      refine rg_g rfl rfl (fun hG => (q_mul rfl rfl (In64.mk (by (have hg0 := T.bool_inj (a := _) hG.1; (try simp only [decide_eq_true_eq, decide_eq_false_iff_not, Bool.and_eq_true, Bool.or_eq_true, Bool.and_eq_false_iff, Bool.or_eq_false_iff, Bool.not_eq_true', Bool.not_eq_false', Bool.not_true, Bool.not_false, bif_and, bif_or, Bool.not_not, ne_eq, Decidable.not_not, not_true_eq_false, not_false_eq_true, Int.not_le, Int.not_lt] at hg0); omega)) (by (have hg0 := T.bool_inj (a := _) hG.1; (try simp only [decide_eq_true_eq, decide_eq_false_iff_not, Bool.and_eq_true, Bool.or_eq_true, Bool.and_eq_false_iff, Bool.or_eq_false_iff, Bool.not_eq_true', Bool.not_eq_false', Bool.not_true, Bool.not_false, bif_and, bif_or, Bool.not_not, ne_eq, Decidable.not_not, not_true_eq_false, not_false_eq_true, Int.not_le, Int.not_lt] at hg0); omega))))) ?_
      refine rg_g rfl rfl (fun hG => (q_add rfl rfl (In64.mk (by (have hg0 := T.bool_inj (a := _) hG.1; (try simp only [decide_eq_true_eq, decide_eq_false_iff_not, Bool.and_eq_true, Bool.or_eq_true, Bool.and_eq_false_iff, Bool.or_eq_false_iff, Bool.not_eq_true', Bool.not_eq_false', Bool.not_true, Bool.not_false, bif_and, bif_or, Bool.not_not, ne_eq, Decidable.not_not, not_true_eq_false, not_false_eq_true, Int.not_le, Int.not_lt] at hg0); omega)) (by (have hg0 := T.bool_inj (a := _) hG.1; (try simp only [decide_eq_true_eq, decide_eq_false_iff_not, Bool.and_eq_true, Bool.or_eq_true, Bool.and_eq_false_iff, Bool.or_eq_false_iff, Bool.not_eq_true', Bool.not_eq_false', Bool.not_true, Bool.not_false, bif_and, bif_or, Bool.not_not, ne_eq, Decidable.not_not, not_true_eq_false, not_false_eq_true, Int.not_le, Int.not_lt] at hg0); omega))))) ?_
      refine rg_g rfl rfl (fun hG => (q_indexAddr sl77 rfl rfl (by (have hg0 := T.bool_inj (a := _) hG.1; (try simp only [decide_eq_true_eq, decide_eq_false_iff_not, Bool.and_eq_true, Bool.or_eq_true, Bool.and_eq_false_iff, Bool.or_eq_false_iff, Bool.not_eq_true', Bool.not_eq_false', Bool.not_true, Bool.not_false, bif_and, bif_or, Bool.not_not, ne_eq, Decidable.not_not, not_true_eq_false, not_false_eq_true, Int.not_le, Int.not_lt] at hg0); omega)) (map_at (k := (dpA g x (dpO g x - (i : Int) - 1)).toNat) (by have := (hb1 (by have hq := of_decide_eq_true (T.bool_inj (a := _) hG.1); omega)).1; omega) (hb1 (by have hq := of_decide_eq_true (T.bool_inj (a := _) hG.1); omega)).2))) ?_
      refine rg_g rfl rfl (fun hG => (q_load sz3 rfl rfl)) ?_
      refine rg_g rfl rfl (fun hG => (q_fieldAddr fld79_3 rfl)) ?_
      refine rg_g rfl rfl (fun hG => (q_load sz3 rfl rfl)) ?_
      refine rg_g rfl rfl (fun hG => (q_mul rfl rfl (In64.mk (by (have hg0 := T.bool_inj (a := _) hG.1; (try simp only [decide_eq_true_eq, decide_eq_false_iff_not, Bool.and_eq_true, Bool.or_eq_true, Bool.and_eq_false_iff, Bool.or_eq_false_iff, Bool.not_eq_true', Bool.not_eq_false', Bool.not_true, Bool.not_false, bif_and, bif_or, Bool.not_not, ne_eq, Decidable.not_not, not_true_eq_false, not_false_eq_true, Int.not_le, Int.not_lt] at hg0); omega)) (by (have hg0 := T.bool_inj (a := _) hG.1; (try simp only [decide_eq_true_eq, decide_eq_false_iff_not, Bool.and_eq_true, Bool.or_eq_true, Bool.and_eq_false_iff, Bool.or_eq_false_iff, Bool.not_eq_true', Bool.not_eq_false', Bool.not_true, Bool.not_false, bif_and, bif_or, Bool.not_not, ne_eq, Decidable.not_not, not_true_eq_false, not_false_eq_true, Int.not_le, Int.not_lt] at hg0); omega))))) ?_
      refine rg_g rfl rfl (fun hG => (q_move (x := .d (.sl _ _)) rfl)) ?_
      refine rg_g rfl rfl (fun hG => (q_fieldAddr fld79_0 rfl)) ?_
      refine rg_g rfl rfl (fun hG => (q_load sz3 rfl rfl)) ?_
      refine rg_g rfl rfl (fun hG => (q_indexAddr sl77 rfl rfl (by (have hg0 := T.bool_inj (a := _) hG.1; (try simp only [decide_eq_true_eq, decide_eq_false_iff_not, Bool.and_eq_true, Bool.or_eq_true, Bool.and_eq_false_iff, Bool.or_eq_false_iff, Bool.not_eq_true', Bool.not_eq_false', Bool.not_true, Bool.not_false, bif_and, bif_or, Bool.not_not, ne_eq, Decidable.not_not, not_true_eq_false, not_false_eq_true, Int.not_le, Int.not_lt] at hg0); omega)) (map_at (k := x.ce.toNat) (by omega) hcx))) ?_
      refine rg_g rfl rfl (fun hG => (q_load sz3 rfl rfl)) ?_
      refine rg_g rfl rfl (fun hG => (q_fieldAddr fld79_2 rfl)) ?_
      refine rg_g rfl rfl (fun hG => (q_load sz3 rfl rfl)) ?_
      refine rg_g rfl rfl (fun hG => (q_mul rfl rfl (In64.mk (by (have hg0 := T.bool_inj (a := _) hG.1; (try simp only [decide_eq_true_eq, decide_eq_false_iff_not, Bool.and_eq_true, Bool.or_eq_true, Bool.and_eq_false_iff, Bool.or_eq_false_iff, Bool.not_eq_true', Bool.not_eq_false', Bool.not_true, Bool.not_false, bif_and, bif_or, Bool.not_not, ne_eq, Decidable.not_not, not_true_eq_false, not_false_eq_true, Int.not_le, Int.not_lt] at hg0); omega)) (by (have hg0 := T.bool_inj (a := _) hG.1; (try simp only [decide_eq_true_eq, decide_eq_false_iff_not, Bool.and_eq_true, Bool.or_eq_true, Bool.and_eq_false_iff, Bool.or_eq_false_iff, Bool.not_eq_true', Bool.not_eq_false', Bool.not_true, Bool.not_false, bif_and, bif_or, Bool.not_not, ne_eq, Decidable.not_not, not_true_eq_false, not_false_eq_true, Int.not_le, Int.not_lt] at hg0); omega))))) ?_
      refine rg_g rfl rfl (fun hG => (q_geq rfl rfl)) ?_
      refine rg_pick rfl rfl rfl rfl rfl rfl ?_
      refine rg_nil ?_
      refine aops_nil ?_
      change Awp _ _ _ _ _
      refine awp_cond rfl (fun hc6 => ?_) (fun hc6 => ?_)
      ·
        (try simp only [decide_eq_true_eq, decide_eq_false_iff_not, Bool.and_eq_true, Bool.or_eq_true, Bool.and_eq_false_iff, Bool.or_eq_false_iff, Bool.not_eq_true', Bool.not_eq_false', Bool.not_true, Bool.not_false, bif_and, bif_or, Bool.not_not, ne_eq, Decidable.not_not, not_true_eq_false, not_false_eq_true, Int.not_le, Int.not_lt] at hc6)
        have hkp := kp_t (n := (dpO g x - (i : Int) - 1)) ⟨by omega, by omega⟩ hc6.2
        have hi40 : i < 40 := by omega
        rw [dpDn_t hi40 hkp] at hh
        refine awp_skip ?_
        change Awp _ _ _ _ _
        refine awp_block ?_
        refine awp_region 4 mixed (by kernel_rfl) ?_
        refine rg_q (q_fieldAddr_ref fld56_0 rfl) ?_
        refine rg_q (q_load_ref sz3 rfl rfl rfl) ?_
        refine rg_q (q_sub rfl rfl (In64.mk (by omega) (by omega))) ?_
        refine rg_q (q_fieldAddr_ref fld56_0 rfl) ?_
        refine rg_nil ?_
        refine aops_store sz3 rfl rfl (by exact .inl rfl) rfl rfl (by simp; done) rfl ?_
        refine aops_nil ?_
        refine ⟨i + 1, ⟨by omega, by rw [hh]; congr 1; omega⟩, by omega, ?_⟩
        exact le_head (ms := [11]) (by repeat (first | exact Out.head rfl rfl | (refine Out.put ?_ rfl) | (refine Out.site ?_ rfl))) trivial ⟨(by (exact bx2 (by omega) (by omega))), trivial⟩ rfl rfl rfl rfl
      ·
        (try simp only [decide_eq_true_eq, decide_eq_false_iff_not, Bool.and_eq_true, Bool.or_eq_true, Bool.and_eq_false_iff, Bool.or_eq_false_iff, Bool.not_eq_true', Bool.not_eq_false', Bool.not_true, Bool.not_false, bif_and, bif_or, Bool.not_not, ne_eq, Decidable.not_not, not_true_eq_false, not_false_eq_true, Int.not_le, Int.not_lt] at hc6)
        have hkp := kp_f (g := g) (pw := pw) (x := x) (n := (dpO g x - (i : Int) - 1)) (fun q => by omega)
        have hi40 : i < 40 := by omega
        rw [dpDn_f hi40 hkp] at hh
        refine awp_exit ?_
        change Awp _ _ _ _ _
        refine awp_seq ?_
        refine awp_block ?_
        refine awp_loopH [70, 71, 72, 73, 74, 75, 76, 77, 78, 79, 80, 81, 82, 83, 84, 85, 86, 87, 88, 89, 90, 91, 92, 93, 94, 95, 96, 97, 98, 99, 100, 101, 102] [11] (α := Nat) (fun j => []) (fun j => [(11, .box [.v (.int .i64 (dpO g x - (i : Int))), .v (.int .i64 (dpO g x + (j : Int)))])]) (fun j => dpO g x + (j : Int) ≤ dpN g x - 1 ∧ dpUp (kpB g pw x) 40 (dpO g x) = dpUp (kpB g pw x) (40 - j) (dpO g x + (j : Int))) (fun j => 40 - j) 0 ⟨(by show dpO g x + ((0 : Nat) : Int) ≤ dpN g x - 1; omega), by simp⟩ ?_ ?_
        · exact le_head (ms := [11]) (by repeat (exact Out.refl _)) trivial ⟨(by (exact bx2 (by omega) (by omega))), trivial⟩ rfl rfl rfl rfl
        ·
          intro j ⟨hj, hu⟩
          have hb1 : (0 ≤ (dpO g x + (j : Int) + 1) ∧ (dpO g x + (j : Int) + 1) ≤ dpN g x - 1) → (0 ≤ dpA g x (dpO g x + (j : Int) + 1) ∧ dpA g x (dpO g x + (j : Int) + 1) ≤ g.co * g.ro - 1) ∧ pw[(dpA g x (dpO g x + (j : Int) + 1)).toNat]? = some (pwA pw (dpA g x (dpO g x + (j : Int) + 1))) := fun q => by
            have w := dpA_in hg hcl (x := x) (n := (dpO g x + (j : Int) + 1)) (inR_iff.2 q)
            exact ⟨w, pwA_at w.1 (by omega)⟩
          have hixm := hix (dpO g x + (j : Int) + 1)
          obtain ⟨p1, p2⟩ := pwA_in hfk (dpA g x (dpO g x + (j : Int) + 1))
          have hm1 := mulb (a := pwA pw (dpA g x (dpO g x + (j : Int) + 1))) (b := x.de) (A := 1000000000000000) (B := 1000) (by omega) (by omega) (by omega) (by omega)
          have hp1 := mulb (a := (dpO g x + (j : Int) + 1)) (b := g.co) (A := 100) (B := 40) (by omega) (by omega) (by omega) (by omega)
          refine awp_seq ?_
          refine awp_seq ?_
          refine awp_region 29 mixed (by kernel_rfl) ?_
          refine rg_q (q_fieldAddr_ref fld56_1 rfl) ?_
          refine rg_q (q_load_ref sz3 rfl rfl rfl) ?_
          refine rg_q (q_move (x := .d (.v _)) rfl) ?_
          refine rg_q (q_sub rfl rfl (In64.mk (by omega) (by omega))) ?_
          refine rg_q (q_lss rfl rfl) ?_
          refine rg_q (q_move (x := .d (.v _)) rfl) ?_
          refine rg_g rfl rfl (fun hG => (q_move (x := .d (.sl _ _)) rfl)) ?_
          refine rg_g rfl rfl (fun hG => (q_move (x := .d (.v _)) rfl)) ?_
          refine rg_g rfl rfl (fun hG => (q_fieldAddr_ref fld56_1 rfl)) ?_
          refine rg_g rfl rfl (fun hG => (q_load_ref sz3 rfl rfl rfl)) ?_
          refine rg_g rfl rfl (fun hG => (q_add rfl rfl (In64.mk (by (have hg0 := T.bool_inj (a := _) hG.1; (try simp only [decide_eq_true_eq, decide_eq_false_iff_not, Bool.and_eq_true, Bool.or_eq_true, Bool.and_eq_false_iff, Bool.or_eq_false_iff, Bool.not_eq_true', Bool.not_eq_false', Bool.not_true, Bool.not_false, bif_and, bif_or, Bool.not_not, ne_eq, Decidable.not_not, not_true_eq_false, not_false_eq_true, Int.not_le, Int.not_lt] at hg0); omega)) (by (have hg0 := T.bool_inj (a := _) hG.1; (try simp only [decide_eq_true_eq, decide_eq_false_iff_not, Bool.and_eq_true, Bool.or_eq_true, Bool.and_eq_false_iff, Bool.or_eq_false_iff, Bool.not_eq_true', Bool.not_eq_false', Bool.not_true, Bool.not_false, bif_and, bif_or, Bool.not_not, ne_eq, Decidable.not_not, not_true_eq_false, not_false_eq_true, Int.not_le, Int.not_lt] at hg0); omega))))) ?_
          refine rg_g rfl rfl (fun hG => (q_move (x := .d (.v _)) rfl)) ?_
          refine rg_g rfl rfl (fun hG => (q_mul rfl rfl (In64.mk (by (have hg0 := T.bool_inj (a := _) hG.1; (try simp only [decide_eq_true_eq, decide_eq_false_iff_not, Bool.and_eq_true, Bool.or_eq_true, Bool.and_eq_false_iff, Bool.or_eq_false_iff, Bool.not_eq_true', Bool.not_eq_false', Bool.not_true, Bool.not_false, bif_and, bif_or, Bool.not_not, ne_eq, Decidable.not_not, not_true_eq_false, not_false_eq_true, Int.not_le, Int.not_lt] at hg0); omega)) (by (have hg0 := T.bool_inj (a := _) hG.1; (try simp only [decide_eq_true_eq, decide_eq_false_iff_not, Bool.and_eq_true, Bool.or_eq_true, Bool.and_eq_false_iff, Bool.or_eq_false_iff, Bool.not_eq_true', Bool.not_eq_false', Bool.not_true, Bool.not_false, bif_and, bif_or, Bool.not_not, ne_eq, Decidable.not_not, not_true_eq_false, not_false_eq_true, Int.not_le, Int.not_lt] at hg0); omega))))) ?_
          refine rg_g rfl rfl (fun hG => (q_add rfl rfl (In64.mk (by (have hg0 := T.bool_inj (a := _) hG.1; (try simp only [decide_eq_true_eq, decide_eq_false_iff_not, Bool.and_eq_true, Bool.or_eq_true, Bool.and_eq_false_iff, Bool.or_eq_false_iff, Bool.not_eq_true', Bool.not_eq_false', Bool.not_true, Bool.not_false, bif_and, bif_or, Bool.not_not, ne_eq, Decidable.not_not, not_true_eq_false, not_false_eq_true, Int.not_le, Int.not_lt] at hg0); omega)) (by (have hg0 := T.bool_inj (a := _) hG.1; (try simp only [decide_eq_true_eq, decide_eq_false_iff_not, Bool.and_eq_true, Bool.or_eq_true, Bool.and_eq_false_iff, Bool.or_eq_false_iff, Bool.not_eq_true', Bool.not_eq_false', Bool.not_true, Bool.not_false, bif_and, bif_or, Bool.not_not, ne_eq, Decidable.not_not, not_true_eq_false, not_false_eq_true, Int.not_le, Int.not_lt] at hg0); omega))))) ?_
          refine rg_g rfl rfl (fun hG => (q_indexAddr sl77 rfl rfl (by (have hg0 := T.bool_inj (a := _) hG.1; (try simp only [decide_eq_true_eq, decide_eq_false_iff_not, Bool.and_eq_true, Bool.or_eq_true, Bool.and_eq_false_iff, Bool.or_eq_false_iff, Bool.not_eq_true', Bool.not_eq_false', Bool.not_true, Bool.not_false, bif_and, bif_or, Bool.not_not, ne_eq, Decidable.not_not, not_true_eq_false, not_false_eq_true, Int.not_le, Int.not_lt] at hg0); omega)) (map_at (k := (dpA g x (dpO g x + (j : Int) + 1)).toNat) (by have := (hb1 (by have hq := of_decide_eq_true (T.bool_inj (a := _) hG.1); omega)).1; omega) (hb1 (by have hq := of_decide_eq_true (T.bool_inj (a := _) hG.1); omega)).2))) ?_
          refine rg_g rfl rfl (fun hG => (q_load sz3 rfl rfl)) ?_
          refine rg_g rfl rfl (fun hG => (q_fieldAddr fld79_3 rfl)) ?_
          refine rg_g rfl rfl (fun hG => (q_load sz3 rfl rfl)) ?_
          refine rg_g rfl rfl (fun hG => (q_mul rfl rfl (In64.mk (by (have hg0 := T.bool_inj (a := _) hG.1; (try simp only [decide_eq_true_eq, decide_eq_false_iff_not, Bool.and_eq_true, Bool.or_eq_true, Bool.and_eq_false_iff, Bool.or_eq_false_iff, Bool.not_eq_true', Bool.not_eq_false', Bool.not_true, Bool.not_false, bif_and, bif_or, Bool.not_not, ne_eq, Decidable.not_not, not_true_eq_false, not_false_eq_true, Int.not_le, Int.not_lt] at hg0); omega)) (by (have hg0 := T.bool_inj (a := _) hG.1; (try simp only [decide_eq_true_eq, decide_eq_false_iff_not, Bool.and_eq_true, Bool.or_eq_true, Bool.and_eq_false_iff, Bool.or_eq_false_iff, Bool.not_eq_true', Bool.not_eq_false', Bool.not_true, Bool.not_false, bif_and, bif_or, Bool.not_not, ne_eq, Decidable.not_not, not_true_eq_false, not_false_eq_true, Int.not_le, Int.not_lt] at hg0); omega))))) ?_
          refine rg_g rfl rfl (fun hG => (q_move (x := .d (.sl _ _)) rfl)) ?_
          refine rg_g rfl rfl (fun hG => (q_fieldAddr fld79_0 rfl)) ?_
          refine rg_g rfl rfl (fun hG => (q_load sz3 rfl rfl)) ?_
          refine rg_g rfl rfl (fun hG => (q_indexAddr sl77 rfl rfl (by (have hg0 := T.bool_inj (a := _) hG.1; (try simp only [decide_eq_true_eq, decide_eq_false_iff_not, Bool.and_eq_true, Bool.or_eq_true, Bool.and_eq_false_iff, Bool.or_eq_false_iff, Bool.not_eq_true', Bool.not_eq_false', Bool.not_true, Bool.not_false, bif_and, bif_or, Bool.not_not, ne_eq, Decidable.not_not, not_true_eq_false, not_false_eq_true, Int.not_le, Int.not_lt] at hg0); omega)) (map_at (k := x.ce.toNat) (by omega) hcx))) ?_
          refine rg_g rfl rfl (fun hG => (q_load sz3 rfl rfl)) ?_
          refine rg_g rfl rfl (fun hG => (q_fieldAddr fld79_2 rfl)) ?_
          refine rg_g rfl rfl (fun hG => (q_load sz3 rfl rfl)) ?_
          refine rg_g rfl rfl (fun hG => (q_mul rfl rfl (In64.mk (by (have hg0 := T.bool_inj (a := _) hG.1; (try simp only [decide_eq_true_eq, decide_eq_false_iff_not, Bool.and_eq_true, Bool.or_eq_true, Bool.and_eq_false_iff, Bool.or_eq_false_iff, Bool.not_eq_true', Bool.not_eq_false', Bool.not_true, Bool.not_false, bif_and, bif_or, Bool.not_not, ne_eq, Decidable.not_not, not_true_eq_false, not_false_eq_true, Int.not_le, Int.not_lt] at hg0); omega)) (by (have hg0 := T.bool_inj (a := _) hG.1; (try simp only [decide_eq_true_eq, decide_eq_false_iff_not, Bool.and_eq_true, Bool.or_eq_true, Bool.and_eq_false_iff, Bool.or_eq_false_iff, Bool.not_eq_true', Bool.not_eq_false', Bool.not_true, Bool.not_false, bif_and, bif_or, Bool.not_not, ne_eq, Decidable.not_not, not_true_eq_false, not_false_eq_true, Int.not_le, Int.not_lt] at hg0); omega))))) ?_
          refine rg_g rfl rfl (fun hG => (q_geq rfl rfl)) ?_
          refine rg_pick rfl rfl rfl rfl rfl rfl ?_
          refine rg_nil ?_
          refine aops_nil ?_
          change Awp _ _ _ _ _
          refine awp_cond rfl (fun hc8 => ?_) (fun hc8 => ?_)
          ·
            (try simp only [decide_eq_true_eq, decide_eq_false_iff_not, Bool.and_eq_true, Bool.or_eq_true, Bool.and_eq_false_iff, Bool.or_eq_false_iff, Bool.not_eq_true', Bool.not_eq_false', Bool.not_true, Bool.not_false, bif_and, bif_or, Bool.not_not, ne_eq, Decidable.not_not, not_true_eq_false, not_false_eq_true, Int.not_le, Int.not_lt] at hc8)
            have hkp := kp_t (n := (dpO g x + (j : Int) + 1)) ⟨by omega, by omega⟩ hc8.2
            have hj40 : j < 40 := by omega
            rw [dpUp_t hj40 hkp] at hu
            refine awp_skip ?_
            change Awp _ _ _ _ _
            refine awp_block ?_
            refine awp_region 4 mixed (by kernel_rfl) ?_
            refine rg_q (q_fieldAddr_ref fld56_1 rfl) ?_
            refine rg_q (q_load_ref sz3 rfl rfl rfl) ?_
            refine rg_q (q_add rfl rfl (In64.mk (by omega) (by omega))) ?_
            refine rg_q (q_fieldAddr_ref fld56_1 rfl) ?_
            refine rg_nil ?_
            refine aops_store sz3 rfl rfl (by exact .inl rfl) rfl rfl (by simp; done) rfl ?_
            refine aops_nil ?_
            refine ⟨j + 1, ⟨by omega, by rw [hu]; congr 1; omega⟩, by omega, ?_⟩
            exact le_head (ms := [11]) (by repeat (first | exact Out.head rfl rfl | (refine Out.put ?_ rfl) | (refine Out.site ?_ rfl))) trivial ⟨(by (exact bx2 (by omega) (by omega))), trivial⟩ rfl rfl rfl rfl
          ·
            (try simp only [decide_eq_true_eq, decide_eq_false_iff_not, Bool.and_eq_true, Bool.or_eq_true, Bool.and_eq_false_iff, Bool.or_eq_false_iff, Bool.not_eq_true', Bool.not_eq_false', Bool.not_true, Bool.not_false, bif_and, bif_or, Bool.not_not, ne_eq, Decidable.not_not, not_true_eq_false, not_false_eq_true, Int.not_le, Int.not_lt] at hc8)
            have hkp := kp_f (g := g) (pw := pw) (x := x) (n := (dpO g x + (j : Int) + 1)) (fun q => by omega)
            have hj40 : j < 40 := by omega
            rw [dpUp_f hj40 hkp] at hu
            have hr : dpR g pw x = (dpO g x - (i : Int), dpO g x + (j : Int)) := by unfold dpR; rw [hh, hu]
            refine awp_exit ?_
            change Awp _ _ _ _ _
            refine awp_seq ?_
            refine awp_region 1 mixed (by kernel_rfl) ?_
            refine rg_q (q_load_refA (ds := [_, _]) sz56 rfl rfl rfl rfl) ?_
            refine rg_nil ?_
            refine aops_store sz56 rfl rfl (by exact .inr ⟨_, rfl⟩) rfl rfl (by decide) rfl ?_
            refine aops_nil ?_
            change Awp _ _ _ _ _
            refine awp_ret ?_
            refine ⟨_, (.cons (.cellA rfl rfl sz56 rfl) .nil), ?_⟩
            rw [hr]; rfl
  ·
    (try simp only [decide_eq_true_eq, decide_eq_false_iff_not, Bool.and_eq_true, Bool.or_eq_true, Bool.and_eq_false_iff, Bool.or_eq_false_iff, Bool.not_eq_true', Bool.not_eq_false', Bool.not_true, Bool.not_false, bif_and, bif_or, Bool.not_not, ne_eq, Decidable.not_not, not_true_eq_false, not_false_eq_true, Int.not_le, Int.not_lt] at hc2)
    have hdn : ¬ x.dn = true := by rw [hc2]; decide
    have hdo : dpO g x = x.ce.tmod g.co := by unfold dpO; rw [if_neg hdn]
    have hdN : dpN g x = g.co := by unfold dpN; rw [if_neg hdn]
    have hix : ∀ m : Int, x.ce - x.ce.tmod g.co * 1 + m * 1 = dpA g x m := fun m => by unfold dpA; rw [if_neg hdn]; omega
    refine awp_skip ?_
    change Awp _ _ _ _ _
    refine awp_seq ?_
    refine awp_region 7 mixed (by kernel_rfl) ?_
    refine rg_q (q_fieldAddr fld79_0 rfl) ?_
    refine rg_q (q_load sz3 rfl rfl) ?_
    refine rg_q (q_move (x := .d (.v _)) rfl) ?_
    refine rg_q (q_move (x := .d (.v _)) rfl) ?_
    refine rg_q (q_mul rfl rfl (In64.mk (by omega) (by omega))) ?_
    refine rg_q (q_sub rfl rfl (In64.mk (by omega) (by omega))) ?_
    refine rg_q (q_assign (x := .d (.v _)) rfl) ?_
    refine rg_nil ?_
    refine aops_nil ?_
    change Awp _ _ _ _ _
    refine awp_seq ?_
    refine awp_region 3 mixed (by kernel_rfl) ?_
    refine rg_q (q_move (x := .d (.v _)) rfl) ?_
    refine rg_q (q_move (x := .d (.v _)) rfl) ?_
    refine rg_q (q_build (cs := [_, _]) pl56 zr56 rfl (.cons rfl (by exact .inl rfl) (.cons rfl (by exact .inl rfl) .nil)) ⟨⟨rfl, by decide⟩, ⟨rfl, by decide⟩, trivial⟩ rfl) ?_
    refine rg_nil ?_
    refine aops_alloc zr56 rfl rfl rfl ?_
    refine aops_store sz56 rfl rfl (by exact .inr ⟨_, rfl⟩) rfl rfl (by decide) rfl ?_
    refine aops_nil ?_
    change Awp _ _ _ _ _
    refine awp_seq ?_
    refine awp_block ?_
    refine awp_loopH [39, 40, 41, 42, 43, 44, 45, 46, 47, 48, 49, 50, 51, 52, 53, 54, 55, 56, 57, 58, 59, 60, 61, 62, 63, 64, 65, 66, 67, 68, 69] [11] (α := Nat) (fun i => []) (fun i => [(11, .box [.v (.int .i64 (dpO g x - (i : Int))), .v (.int .i64 (dpO g x))])]) (fun i => (i : Int) ≤ dpO g x ∧ dpDn (kpB g pw x) 40 (dpO g x) = dpDn (kpB g pw x) (40 - i) (dpO g x - (i : Int))) (fun i => 40 - i) 0 ⟨(by show ((0 : Nat) : Int) ≤ dpO g x; omega), by simp⟩ ?_ ?_
    · exact le_head (ms := [11]) (by repeat (exact Out.refl _)) trivial ⟨(by (exact bx2 (by omega) (by omega))), trivial⟩ rfl rfl rfl rfl
    ·
      intro i ⟨hi, hh⟩
      have hb1 : (0 ≤ (dpO g x - (i : Int) - 1) ∧ (dpO g x - (i : Int) - 1) ≤ dpN g x - 1) → (0 ≤ dpA g x (dpO g x - (i : Int) - 1) ∧ dpA g x (dpO g x - (i : Int) - 1) ≤ g.co * g.ro - 1) ∧ pw[(dpA g x (dpO g x - (i : Int) - 1)).toNat]? = some (pwA pw (dpA g x (dpO g x - (i : Int) - 1))) := fun q => by
        have w := dpA_in hg hcl (x := x) (n := (dpO g x - (i : Int) - 1)) (inR_iff.2 q)
        exact ⟨w, pwA_at w.1 (by omega)⟩
      have hixm := hix (dpO g x - (i : Int) - 1)
      obtain ⟨p1, p2⟩ := pwA_in hfk (dpA g x (dpO g x - (i : Int) - 1))
      have hm1 := mulb (a := pwA pw (dpA g x (dpO g x - (i : Int) - 1))) (b := x.de) (A := 1000000000000000) (B := 1000) (by omega) (by omega) (by omega) (by omega)
      have hp1 := mulb (a := (dpO g x - (i : Int) - 1)) (b := g.co) (A := 100) (B := 40) (by omega) (by omega) (by omega) (by omega)
      refine awp_seq ?_
      refine awp_seq ?_
      refine awp_region 27 mixed (by kernel_rfl) ?_
      refine rg_q (q_fieldAddr_ref fld56_0 rfl) ?_
      refine rg_q (q_load_ref sz3 rfl rfl rfl) ?_
      refine rg_q (q_gtr rfl rfl) ?_
      refine rg_q (q_move (x := .d (.v _)) rfl) ?_
      refine rg_g rfl rfl (fun hG => (q_move (x := .d (.sl _ _)) rfl)) ?_
      refine rg_g rfl rfl (fun hG => (q_move (x := .d (.v _)) rfl)) ?_
      refine rg_g rfl rfl (fun hG => (q_fieldAddr_ref fld56_0 rfl)) ?_
      refine rg_g rfl rfl (fun hG => (q_load_ref sz3 rfl rfl rfl)) ?_
      refine rg_g rfl rfl (fun hG => (q_sub rfl rfl (In64.mk (by (have hg0 := T.bool_inj (a := _) hG.1; (try simp only [decide_eq_true_eq, decide_eq_false_iff_not, Bool.and_eq_true, Bool.or_eq_true, Bool.and_eq_false_iff, Bool.or_eq_false_iff, Bool.not_eq_true', Bool.not_eq_false', Bool.not_true, Bool.not_false, bif_and, bif_or, Bool.not_not, ne_eq, Decidable.not_not, not_true_eq_false, not_false_eq_true, Int.not_le, Int.not_lt] at hg0); omega)) (by (have hg0 := T.bool_inj (a := _) hG.1; (try simp only [decide_eq_true_eq, decide_eq_false_iff_not, Bool.and_eq_true, Bool.or_eq_true, Bool.and_eq_false_iff, Bool.or_eq_false_iff, Bool.not_eq_true', Bool.not_eq_false', Bool.not_true, Bool.not_false, bif_and, bif_or, Bool.not_not, ne_eq, Decidable.not_not, not_true_eq_false, not_false_eq_true, Int.not_le, Int.not_lt] at hg0); omega))))) ?_
      refine rg_g rfl rfl (fun hG => (q_move (x := .d (.v _)) rfl)) ?_
      refine rg_g rfl rfl (fun hG => (q_mul rfl rfl (In64.mk (by (have hg0 := T.bool_inj (a := _) hG.1; (try simp only [decide_eq_true_eq, decide_eq_false_iff_not, Bool.and_eq_true, Bool.or_eq_true, Bool.and_eq_false_iff, Bool.or_eq_false_iff, Bool.not_eq_true', Bool.not_eq_false', Bool.not_true, Bool.not_false, bif_and, bif_or, Bool.not_not, ne_eq, Decidable.not_not, not_true_eq_false, not_false_eq_true, Int.not_le, Int.not_lt] at hg0); omega)) (by (have hg0 := T.bool_inj (a := _) hG.1; (try simp only [decide_eq_true_eq, decide_eq_false_iff_not, Bool.and_eq_true, Bool.or_eq_true, Bool.and_eq_false_iff, Bool.or_eq_false_iff, Bool.not_eq_true', Bool.not_eq_false', Bool.not_true, Bool.not_false, bif_and, bif_or, Bool.not_not, ne_eq, Decidable.not_not, not_true_eq_false, not_false_eq_true, Int.not_le, Int.not_lt] at hg0); omega))))) ?_
      refine rg_g rfl rfl (fun hG => (q_add rfl rfl (In64.mk (by (have hg0 := T.bool_inj (a := _) hG.1; (try simp only [decide_eq_true_eq, decide_eq_false_iff_not, Bool.and_eq_true, Bool.or_eq_true, Bool.and_eq_false_iff, Bool.or_eq_false_iff, Bool.not_eq_true', Bool.not_eq_false', Bool.not_true, Bool.not_false, bif_and, bif_or, Bool.not_not, ne_eq, Decidable.not_not, not_true_eq_false, not_false_eq_true, Int.not_le, Int.not_lt] at hg0); omega)) (by (have hg0 := T.bool_inj (a := _) hG.1; (try simp only [decide_eq_true_eq, decide_eq_false_iff_not, Bool.and_eq_true, Bool.or_eq_true, Bool.and_eq_false_iff, Bool.or_eq_false_iff, Bool.not_eq_true', Bool.not_eq_false', Bool.not_true, Bool.not_false, bif_and, bif_or, Bool.not_not, ne_eq, Decidable.not_not, not_true_eq_false, not_false_eq_true, Int.not_le, Int.not_lt] at hg0); omega))))) ?_
      refine rg_g rfl rfl (fun hG => (q_indexAddr sl77 rfl rfl (by (have hg0 := T.bool_inj (a := _) hG.1; (try simp only [decide_eq_true_eq, decide_eq_false_iff_not, Bool.and_eq_true, Bool.or_eq_true, Bool.and_eq_false_iff, Bool.or_eq_false_iff, Bool.not_eq_true', Bool.not_eq_false', Bool.not_true, Bool.not_false, bif_and, bif_or, Bool.not_not, ne_eq, Decidable.not_not, not_true_eq_false, not_false_eq_true, Int.not_le, Int.not_lt] at hg0); omega)) (map_at (k := (dpA g x (dpO g x - (i : Int) - 1)).toNat) (by have := (hb1 (by have hq := of_decide_eq_true (T.bool_inj (a := _) hG.1); omega)).1; omega) (hb1 (by have hq := of_decide_eq_true (T.bool_inj (a := _) hG.1); omega)).2))) ?_
      refine rg_g rfl rfl (fun hG => (q_load sz3 rfl rfl)) ?_
      refine rg_g rfl rfl (fun hG => (q_fieldAddr fld79_3 rfl)) ?_
      refine rg_g rfl rfl (fun hG => (q_load sz3 rfl rfl)) ?_
      refine rg_g rfl rfl (fun hG => (q_mul rfl rfl (In64.mk (by (have hg0 := T.bool_inj (a := _) hG.1; (try simp only [decide_eq_true_eq, decide_eq_false_iff_not, Bool.and_eq_true, Bool.or_eq_true, Bool.and_eq_false_iff, Bool.or_eq_false_iff, Bool.not_eq_true', Bool.not_eq_false', Bool.not_true, Bool.not_false, bif_and, bif_or, Bool.not_not, ne_eq, Decidable.not_not, not_true_eq_false, not_false_eq_true, Int.not_le, Int.not_lt] at hg0); omega)) (by (have hg0 := T.bool_inj (a := _) hG.1; (try simp only [decide_eq_true_eq, decide_eq_false_iff_not, Bool.and_eq_true, Bool.or_eq_true, Bool.and_eq_false_iff, Bool.or_eq_false_iff, Bool.not_eq_true', Bool.not_eq_false', Bool.not_true, Bool.not_false, bif_and, bif_or, Bool.not_not, ne_eq, Decidable.not_not, not_true_eq_false, not_false_eq_true, Int.not_le, Int.not_lt] at hg0); omega))))) ?_
      refine rg_g rfl rfl (fun hG => (q_move (x := .d (.sl _ _)) rfl)) ?_
      refine rg_g rfl rfl (fun hG => (q_fieldAddr fld79_0 rfl)) ?_
      refine rg_g rfl rfl (fun hG => (q_load sz3 rfl rfl)) ?_
      refine rg_g rfl rfl (fun hG => (q_indexAddr sl77 rfl rfl (by (have hg0 := T.bool_inj (a := _) hG.1; (try simp only [decide_eq_true_eq, decide_eq_false_iff_not, Bool.and_eq_true, Bool.or_eq_true, Bool.and_eq_false_iff, Bool.or_eq_false_iff, Bool.not_eq_true', Bool.not_eq_false', Bool.not_true, Bool.not_false, bif_and, bif_or, Bool.not_not, ne_eq, Decidable.not_not, not_true_eq_false, not_false_eq_true, Int.not_le, Int.not_lt] at hg0); omega)) (map_at (k := x.ce.toNat) (by omega) hcx))) ?_
      refine rg_g rfl rfl (fun hG => (q_load sz3 rfl rfl)) ?_
      refine rg_g rfl rfl (fun hG => (q_fieldAddr fld79_2 rfl)) ?_
      refine rg_g rfl rfl (fun hG => (q_load sz3 rfl rfl)) ?_
      refine rg_g rfl rfl (fun hG => (q_mul rfl rfl (In64.mk (by (have hg0 := T.bool_inj (a := _) hG.1; (try simp only [decide_eq_true_eq, decide_eq_false_iff_not, Bool.and_eq_true, Bool.or_eq_true, Bool.and_eq_false_iff, Bool.or_eq_false_iff, Bool.not_eq_true', Bool.not_eq_false', Bool.not_true, Bool.not_false, bif_and, bif_or, Bool.not_not, ne_eq, Decidable.not_not, not_true_eq_false, not_false_eq_true, Int.not_le, Int.not_lt] at hg0); omega)) (by (have hg0 := T.bool_inj (a := _) hG.1; (try simp only [decide_eq_true_eq, decide_eq_false_iff_not, Bool.and_eq_true, Bool.or_eq_true, Bool.and_eq_false_iff, Bool.or_eq_false_iff, Bool.not_eq_true', Bool.not_eq_false', Bool.not_true, Bool.not_false, bif_and, bif_or, Bool.not_not, ne_eq, Decidable.not_not, not_true_eq_false, not_false_eq_true, Int.not_le, Int.not_lt] at hg0); omega))))) ?_
      refine rg_g rfl rfl (fun hG => (q_geq rfl rfl)) ?_
      refine rg_pick rfl rfl rfl rfl rfl rfl ?_
      refine rg_nil ?_
      refine aops_nil ?_
      change Awp _ _ _ _ _
      refine awp_cond rfl (fun hc6 => ?_) (fun hc6 => ?_)
      ·
        (try simp only [decide_eq_true_eq, decide_eq_false_iff_not, Bool.and_eq_true, Bool.or_eq_true, Bool.and_eq_false_iff, Bool.or_eq_false_iff, Bool.not_eq_true', Bool.not_eq_false', Bool.not_true, Bool.not_false, bif_and, bif_or, Bool.not_not, ne_eq, Decidable.not_not, not_true_eq_false, not_false_eq_true, Int.not_le, Int.not_lt] at hc6)
        have hkp := kp_t (n := (dpO g x - (i : Int) - 1)) ⟨by omega, by omega⟩ hc6.2
        have hi40 : i < 40 := by omega
        rw [dpDn_t hi40 hkp] at hh
        refine awp_skip ?_
        change Awp _ _ _ _ _
        refine awp_block ?_
        refine awp_region 4 mixed (by kernel_rfl) ?_
        refine rg_q (q_fieldAddr_ref fld56_0 rfl) ?_
        refine rg_q (q_load_ref sz3 rfl rfl rfl) ?_
        refine rg_q (q_sub rfl rfl (In64.mk (by omega) (by omega))) ?_
        refine rg_q (q_fieldAddr_ref fld56_0 rfl) ?_
        refine rg_nil ?_
        refine aops_store sz3 rfl rfl (by exact .inl rfl) rfl rfl (by simp; done) rfl ?_
        refine aops_nil ?_
        refine ⟨i + 1, ⟨by omega, by rw [hh]; congr 1; omega⟩, by omega, ?_⟩
        exact le_head (ms := [11]) (by repeat (first | exact Out.head rfl rfl | (refine Out.put ?_ rfl) | (refine Out.site ?_ rfl))) trivial ⟨(by (exact bx2 (by omega) (by omega))), trivial⟩ rfl rfl rfl rfl
      ·
        (try simp only [decide_eq_true_eq, decide_eq_false_iff_not, Bool.and_eq_true, Bool.or_eq_true, Bool.and_eq_false_iff, Bool.or_eq_false_iff, Bool.not_eq_true', Bool.not_eq_false', Bool.not_true, Bool.not_false, bif_and, bif_or, Bool.not_not, ne_eq, Decidable.not_not, not_true_eq_false, not_false_eq_true, Int.not_le, Int.not_lt] at hc6)
        have hkp := kp_f (g := g) (pw := pw) (x := x) (n := (dpO g x - (i : Int) - 1)) (fun q => by omega)
        have hi40 : i < 40 := by omega
        rw [dpDn_f hi40 hkp] at hh
        refine awp_exit ?_
        change Awp _ _ _ _ _
        refine awp_seq ?_
        refine awp_block ?_
        refine awp_loopH [70, 71, 72, 73, 74, 75, 76, 77, 78, 79, 80, 81, 82, 83, 84, 85, 86, 87, 88, 89, 90, 91, 92, 93, 94, 95, 96, 97, 98, 99, 100, 101, 102] [11] (α := Nat) (fun j => []) (fun j => [(11, .box [.v (.int .i64 (dpO g x - (i : Int))), .v (.int .i64 (dpO g x + (j : Int)))])]) (fun j => dpO g x + (j : Int) ≤ dpN g x - 1 ∧ dpUp (kpB g pw x) 40 (dpO g x) = dpUp (kpB g pw x) (40 - j) (dpO g x + (j : Int))) (fun j => 40 - j) 0 ⟨(by show dpO g x + ((0 : Nat) : Int) ≤ dpN g x - 1; omega), by simp⟩ ?_ ?_
        · exact le_head (ms := [11]) (by repeat (exact Out.refl _)) trivial ⟨(by (exact bx2 (by omega) (by omega))), trivial⟩ rfl rfl rfl rfl
        ·
          intro j ⟨hj, hu⟩
          have hb1 : (0 ≤ (dpO g x + (j : Int) + 1) ∧ (dpO g x + (j : Int) + 1) ≤ dpN g x - 1) → (0 ≤ dpA g x (dpO g x + (j : Int) + 1) ∧ dpA g x (dpO g x + (j : Int) + 1) ≤ g.co * g.ro - 1) ∧ pw[(dpA g x (dpO g x + (j : Int) + 1)).toNat]? = some (pwA pw (dpA g x (dpO g x + (j : Int) + 1))) := fun q => by
            have w := dpA_in hg hcl (x := x) (n := (dpO g x + (j : Int) + 1)) (inR_iff.2 q)
            exact ⟨w, pwA_at w.1 (by omega)⟩
          have hixm := hix (dpO g x + (j : Int) + 1)
          obtain ⟨p1, p2⟩ := pwA_in hfk (dpA g x (dpO g x + (j : Int) + 1))
          have hm1 := mulb (a := pwA pw (dpA g x (dpO g x + (j : Int) + 1))) (b := x.de) (A := 1000000000000000) (B := 1000) (by omega) (by omega) (by omega) (by omega)
          have hp1 := mulb (a := (dpO g x + (j : Int) + 1)) (b := g.co) (A := 100) (B := 40) (by omega) (by omega) (by omega) (by omega)
          refine awp_seq ?_
          refine awp_seq ?_
          refine awp_region 29 mixed (by kernel_rfl) ?_
          refine rg_q (q_fieldAddr_ref fld56_1 rfl) ?_
          refine rg_q (q_load_ref sz3 rfl rfl rfl) ?_
          refine rg_q (q_move (x := .d (.v _)) rfl) ?_
          refine rg_q (q_sub rfl rfl (In64.mk (by omega) (by omega))) ?_
          refine rg_q (q_lss rfl rfl) ?_
          refine rg_q (q_move (x := .d (.v _)) rfl) ?_
          refine rg_g rfl rfl (fun hG => (q_move (x := .d (.sl _ _)) rfl)) ?_
          refine rg_g rfl rfl (fun hG => (q_move (x := .d (.v _)) rfl)) ?_
          refine rg_g rfl rfl (fun hG => (q_fieldAddr_ref fld56_1 rfl)) ?_
          refine rg_g rfl rfl (fun hG => (q_load_ref sz3 rfl rfl rfl)) ?_
          refine rg_g rfl rfl (fun hG => (q_add rfl rfl (In64.mk (by (have hg0 := T.bool_inj (a := _) hG.1; (try simp only [decide_eq_true_eq, decide_eq_false_iff_not, Bool.and_eq_true, Bool.or_eq_true, Bool.and_eq_false_iff, Bool.or_eq_false_iff, Bool.not_eq_true', Bool.not_eq_false', Bool.not_true, Bool.not_false, bif_and, bif_or, Bool.not_not, ne_eq, Decidable.not_not, not_true_eq_false, not_false_eq_true, Int.not_le, Int.not_lt] at hg0); omega)) (by (have hg0 := T.bool_inj (a := _) hG.1; (try simp only [decide_eq_true_eq, decide_eq_false_iff_not, Bool.and_eq_true, Bool.or_eq_true, Bool.and_eq_false_iff, Bool.or_eq_false_iff, Bool.not_eq_true', Bool.not_eq_false', Bool.not_true, Bool.not_false, bif_and, bif_or, Bool.not_not, ne_eq, Decidable.not_not, not_true_eq_false, not_false_eq_true, Int.not_le, Int.not_lt] at hg0); omega))))) ?_
          refine rg_g rfl rfl (fun hG => (q_move (x := .d (.v _)) rfl)) ?_
          refine rg_g rfl rfl (fun hG => (q_mul rfl rfl (In64.mk (by (have hg0 := T.bool_inj (a := _) hG.1; (try simp only [decide_eq_true_eq, decide_eq_false_iff_not, Bool.and_eq_true, Bool.or_eq_true, Bool.and_eq_false_iff, Bool.or_eq_false_iff, Bool.not_eq_true', Bool.not_eq_false', Bool.not_true, Bool.not_false, bif_and, bif_or, Bool.not_not, ne_eq, Decidable.not_not, not_true_eq_false, not_false_eq_true, Int.not_le, Int.not_lt] at hg0); omega)) (by (have hg0 := T.bool_inj (a := _) hG.1; (try simp only [decide_eq_true_eq, decide_eq_false_iff_not, Bool.and_eq_true, Bool.or_eq_true, Bool.and_eq_false_iff, Bool.or_eq_false_iff, Bool.not_eq_true', Bool.not_eq_false', Bool.not_true, Bool.not_false, bif_and, bif_or, Bool.not_not, ne_eq, Decidable.not_not, not_true_eq_false, not_false_eq_true, Int.not_le, Int.not_lt] at hg0); omega))))) ?_
          refine rg_g rfl rfl (fun hG => (q_add rfl rfl (In64.mk (by (have hg0 := T.bool_inj (a := _) hG.1; (try simp only [decide_eq_true_eq, decide_eq_false_iff_not, Bool.and_eq_true, Bool.or_eq_true, Bool.and_eq_false_iff, Bool.or_eq_false_iff, Bool.not_eq_true', Bool.not_eq_false', Bool.not_true, Bool.not_false, bif_and, bif_or, Bool.not_not, ne_eq, Decidable.not_not, not_true_eq_false, not_false_eq_true, Int.not_le, Int.not_lt] at hg0); omega)) (by (have hg0 := T.bool_inj (a := _) hG.1; (try simp only [decide_eq_true_eq, decide_eq_false_iff_not, Bool.and_eq_true, Bool.or_eq_true, Bool.and_eq_false_iff, Bool.or_eq_false_iff, Bool.not_eq_true', Bool.not_eq_false', Bool.not_true, Bool.not_false, bif_and, bif_or, Bool.not_not, ne_eq, Decidable.not_not, not_true_eq_false, not_false_eq_true, Int.not_le, Int.not_lt] at hg0); omega))))) ?_
          refine rg_g rfl rfl (fun hG => (q_indexAddr sl77 rfl rfl (by (have hg0 := T.bool_inj (a := _) hG.1; (try simp only [decide_eq_true_eq, decide_eq_false_iff_not, Bool.and_eq_true, Bool.or_eq_true, Bool.and_eq_false_iff, Bool.or_eq_false_iff, Bool.not_eq_true', Bool.not_eq_false', Bool.not_true, Bool.not_false, bif_and, bif_or, Bool.not_not, ne_eq, Decidable.not_not, not_true_eq_false, not_false_eq_true, Int.not_le, Int.not_lt] at hg0); omega)) (map_at (k := (dpA g x (dpO g x + (j : Int) + 1)).toNat) (by have := (hb1 (by have hq := of_decide_eq_true (T.bool_inj (a := _) hG.1); omega)).1; omega) (hb1 (by have hq := of_decide_eq_true (T.bool_inj (a := _) hG.1); omega)).2))) ?_
          refine rg_g rfl rfl (fun hG => (q_load sz3 rfl rfl)) ?_
          refine rg_g rfl rfl (fun hG => (q_fieldAddr fld79_3 rfl)) ?_
          refine rg_g rfl rfl (fun hG => (q_load sz3 rfl rfl)) ?_
          refine rg_g rfl rfl (fun hG => (q_mul rfl rfl (In64.mk (by (have hg0 := T.bool_inj (a := _) hG.1; (try simp only [decide_eq_true_eq, decide_eq_false_iff_not, Bool.and_eq_true, Bool.or_eq_true, Bool.and_eq_false_iff, Bool.or_eq_false_iff, Bool.not_eq_true', Bool.not_eq_false', Bool.not_true, Bool.not_false, bif_and, bif_or, Bool.not_not, ne_eq, Decidable.not_not, not_true_eq_false, not_false_eq_true, Int.not_le, Int.not_lt] at hg0); omega)) (by (have hg0 := T.bool_inj (a := _) hG.1; (try simp only [decide_eq_true_eq, decide_eq_false_iff_not, Bool.and_eq_true, Bool.or_eq_true, Bool.and_eq_false_iff, Bool.or_eq_false_iff, Bool.not_eq_true', Bool.not_eq_false', Bool.not_true, Bool.not_false, bif_and, bif_or, Bool.not_not, ne_eq, Decidable.not_not, not_true_eq_false, not_false_eq_true, Int.not_le, Int.not_lt] at hg0); omega))))) ?_
          refine rg_g rfl rfl (fun hG => (q_move (x := .d (.sl _ _)) rfl)) ?_
          refine rg_g rfl rfl (fun hG => (q_fieldAddr fld79_0 rfl)) ?_
          refine rg_g rfl rfl (fun hG => (q_load sz3 rfl rfl)) ?_
          refine rg_g rfl rfl (fun hG => (q_indexAddr sl77 rfl rfl (by (have hg0 := T.bool_inj (a := _) hG.1; (try simp only [decide_eq_true_eq, decide_eq_false_iff_not, Bool.and_eq_true, Bool.or_eq_true, Bool.and_eq_false_iff, Bool.or_eq_false_iff, Bool.not_eq_true', Bool.not_eq_false', Bool.not_true, Bool.not_false, bif_and, bif_or, Bool.not_not, ne_eq, Decidable.not_not, not_true_eq_false, not_false_eq_true, Int.not_le, Int.not_lt] at hg0); omega)) (map_at (k := x.ce.toNat) (by omega) hcx))) ?_
          refine rg_g rfl rfl (fun hG => (q_load sz3 rfl rfl)) ?_
          refine rg_g rfl rfl (fun hG => (q_fieldAddr fld79_2 rfl)) ?_
          refine rg_g rfl rfl (fun hG => (q_load sz3 rfl rfl)) ?_
          refine rg_g rfl rfl (fun hG => (q_mul rfl rfl (In64.mk (by (have hg0 := T.bool_inj (a := _) hG.1; (try simp only [decide_eq_true_eq, decide_eq_false_iff_not, Bool.and_eq_true, Bool.or_eq_true, Bool.and_eq_false_iff, Bool.or_eq_false_iff, Bool.not_eq_true', Bool.not_eq_false', Bool.not_true, Bool.not_false, bif_and, bif_or, Bool.not_not, ne_eq, Decidable.not_not, not_true_eq_false, not_false_eq_true, Int.not_le, Int.not_lt] at hg0); omega)) (by (have hg0 := T.bool_inj (a := _) hG.1; (try simp only [decide_eq_true_eq, decide_eq_false_iff_not, Bool.and_eq_true, Bool.or_eq_true, Bool.and_eq_false_iff, Bool.or_eq_false_iff, Bool.not_eq_true', Bool.not_eq_false', Bool.not_true, Bool.not_false, bif_and, bif_or, Bool.not_not, ne_eq, Decidable.not_not, not_true_eq_false, not_false_eq_true, Int.not_le, Int.not_lt] at hg0); omega))))) ?_
          refine rg_g rfl rfl (fun hG => (q_geq rfl rfl)) ?_
          refine rg_pick rfl rfl rfl rfl rfl rfl ?_
          refine rg_nil ?_
          refine aops_nil ?_
          change Awp _ _ _ _ _
          refine awp_cond rfl (fun hc8 => ?_) (fun hc8 => ?_)
          ·
            (try simp only [decide_eq_true_eq, decide_eq_false_iff_not, Bool.and_eq_true, Bool.or_eq_true, Bool.and_eq_false_iff, Bool.or_eq_false_iff, Bool.not_eq_true', Bool.not_eq_false', Bool.not_true, Bool.not_false, bif_and, bif_or, Bool.not_not, ne_eq, Decidable.not_not, not_true_eq_false, not_false_eq_true, Int.not_le, Int.not_lt] at hc8)
            have hkp := kp_t (n := (dpO g x + (j : Int) + 1)) ⟨by omega, by omega⟩ hc8.2
            have hj40 : j < 40 := by omega
            rw [dpUp_t hj40 hkp] at hu
            refine awp_skip ?_
            change Awp _ _ _ _ _
            refine awp_block ?_
            refine awp_region 4 mixed (by kernel_rfl) ?_
            refine rg_q (q_fieldAddr_ref fld56_1 rfl) ?_
            refine rg_q (q_load_ref sz3 rfl rfl rfl) ?_
            refine rg_q (q_add rfl rfl (In64.mk (by omega) (by omega))) ?_
            refine rg_q (q_fieldAddr_ref fld56_1 rfl) ?_
            refine rg_nil ?_
            refine aops_store sz3 rfl rfl (by exact .inl rfl) rfl rfl (by simp; done) rfl ?_
            refine aops_nil ?_
            refine ⟨j + 1, ⟨by omega, by rw [hu]; congr 1; omega⟩, by omega, ?_⟩
            exact le_head (ms := [11]) (by repeat (first | exact Out.head rfl rfl | (refine Out.put ?_ rfl) | (refine Out.site ?_ rfl))) trivial ⟨(by (exact bx2 (by omega) (by omega))), trivial⟩ rfl rfl rfl rfl
          ·
            (try simp only [decide_eq_true_eq, decide_eq_false_iff_not, Bool.and_eq_true, Bool.or_eq_true, Bool.and_eq_false_iff, Bool.or_eq_false_iff, Bool.not_eq_true', Bool.not_eq_false', Bool.not_true, Bool.not_false, bif_and, bif_or, Bool.not_not, ne_eq, Decidable.not_not, not_true_eq_false, not_false_eq_true, Int.not_le, Int.not_lt] at hc8)
            have hkp := kp_f (g := g) (pw := pw) (x := x) (n := (dpO g x + (j : Int) + 1)) (fun q => by omega)
            have hj40 : j < 40 := by omega
            rw [dpUp_f hj40 hkp] at hu
            have hr : dpR g pw x = (dpO g x - (i : Int), dpO g x + (j : Int)) := by unfold dpR; rw [hh, hu]
            refine awp_exit ?_
            change Awp _ _ _ _ _
            refine awp_seq ?_
            refine awp_region 1 mixed (by kernel_rfl) ?_
            refine rg_q (q_load_refA (ds := [_, _]) sz56 rfl rfl rfl rfl) ?_
            refine rg_nil ?_
            refine aops_store sz56 rfl rfl (by exact .inr ⟨_, rfl⟩) rfl rfl (by decide) rfl ?_
            refine aops_nil ?_
            change Awp _ _ _ _ _
            refine awp_ret ?_
            refine ⟨_, (.cons (.cellA rfl rfl sz56 rfl) .nil), ?_⟩
            rw [hr]; rfl
set_option maxHeartbeats 4000000 in
theorem focusDrops_p (g : Grd) (pw : List Int) (x : Drp) : PC Tryz.prog 8 [.agg (grdC g), .sl 1 (pw.map iC), .agg (drpC x)] (.v (.bool (true))) := by
  refine pc_of_awpN Tryz.func8 rfl Tryz.ntmps8 (rs := [.tmp 6]) Tryz.results8 (by simp) fun w0 hmine hrnd hpn => ?_
  refine awp_seq ?_
  refine awp_region 3 mixed (by kernel_rfl) ?_
  refine rg_q (q_box rfl (by exact .inr ⟨_, rfl⟩)) ?_
  refine rg_q (q_box rfl (by exact .inr ⟨_, rfl⟩)) ?_
  refine rg_q (q_assign (x := .d (.v _)) rfl) ?_
  refine rg_nil ?_
  refine aops_nil ?_
  change Awp _ _ _ _ _
  refine awp_seq ?_
  refine awp_seq ?_
  refine awp_region 2 mixed (by kernel_rfl) ?_
  refine rg_q (q_call en18 .nil rfl (awake5_p)) ?_
  refine rg_q (q_not rfl) ?_
  refine rg_nil ?_
  refine aops_nil ?_
  change Awp _ _ _ _ _
  refine awp_cond rfl (fun hc1 => ?_) (fun hc1 => ?_)
  ·
    simp at hc1
  ·
    (try simp only [decide_eq_true_eq, decide_eq_false_iff_not, Bool.and_eq_true, Bool.or_eq_true, Bool.and_eq_false_iff, Bool.or_eq_false_iff, Bool.not_eq_true', Bool.not_eq_false', Bool.not_true, Bool.not_false, bif_and, bif_or, Bool.not_not, ne_eq, Decidable.not_not, not_true_eq_false, not_false_eq_true, Int.not_le, Int.not_lt] at hc1)
    refine awp_skip ?_
    change Awp _ _ _ _ _
    refine awp_seq ?_
    refine awp_seq ?_
    refine awp_region 8 mixed (by kernel_rfl) ?_
    refine rg_q (q_loadA (ds := [_, _, _, _, _]) sz35 rfl rfl rfl) ?_
    refine rg_q (q_call en40 (.cons rfl .nil) rfl (small_p _)) ?_
    refine rg_q (q_not rfl) ?_
    refine rg_q (q_move (x := .d (.v _)) rfl) ?_
    refine rg_g rfl rfl (fun hG => (q_move (x := .d (.sl _ _)) rfl)) ?_
    refine rg_g rfl rfl (fun hG => (q_len isl77 rfl (by exact len_map _ _))) ?_
    refine rg_g rfl rfl (fun hG => (q_gtr rfl rfl)) ?_
    refine rg_pick rfl rfl rfl rfl rfl rfl ?_
    refine rg_nil ?_
    refine aops_nil ?_
    change Awp _ _ _ _ _
    refine awp_cond rfl (fun hc3 => ?_) (fun hc3 => ?_)
    ·
      (try simp only [decide_eq_true_eq, decide_eq_false_iff_not, Bool.and_eq_true, Bool.or_eq_true, Bool.and_eq_false_iff, Bool.or_eq_false_iff, Bool.not_eq_true', Bool.not_eq_false', Bool.not_true, Bool.not_false, bif_and, bif_or, Bool.not_not, ne_eq, Decidable.not_not, not_true_eq_false, not_false_eq_true, Int.not_le, Int.not_lt] at hc3)
      refine awp_seq ?_
      refine awp_region 1 mixed (by kernel_rfl) ?_
      refine rg_q (q_assign (x := .d (.v _)) rfl) ?_
      refine rg_nil ?_
      refine aops_nil ?_
      change Awp _ _ _ _ _
      refine awp_ret ?_
      refine ⟨_, (.cons (.tmp (by exact .d _)) .nil), ?_⟩
      rfl
    ·
      (try simp only [decide_eq_true_eq, decide_eq_false_iff_not, Bool.and_eq_true, Bool.or_eq_true, Bool.and_eq_false_iff, Bool.or_eq_false_iff, Bool.not_eq_true', Bool.not_eq_false', Bool.not_true, Bool.not_false, bif_and, bif_or, Bool.not_not, ne_eq, Decidable.not_not, not_true_eq_false, not_false_eq_true, Int.not_le, Int.not_lt] at hc3)
      have hl20 : pw.length ≤ 20 := by omega
      refine awp_skip ?_
      change Awp _ _ _ _ _
      refine awp_seq ?_
      refine awp_regionM 11 [none, none, none, none, none, none, none, none, some 7, some 7, none] mixed (by kernel_rfl) ?_
      refine rgm_q rfl (q_loadA (ds := [_, _, _, _, _]) sz35 rfl rfl rfl) ?_
      refine rgm_q rfl (q_move (x := .d (.sl _ _)) rfl) ?_
      refine rgm_q rfl (q_call en42 (.cons rfl .nil) rfl (copyInts5_p _ (by omega))) ?_
      refine rgm_q rfl (q_loadA (ds := [_, _, _, _]) sz79 rfl rfl rfl) ?_
      refine rgm_q rfl (q_call en41 (.cons rfl (.cons rfl (.cons rfl .nil))) rfl (dropOf_p _ _ _)) ?_
      refine rgm_q rfl (q_move (x := .d (.tup _)) rfl) ?_
      refine rgm_q rfl (q_extract rfl rfl) ?_
      refine rgm_q rfl (q_extract rfl rfl) ?_
      refine rgm_m (k := 7) rfl rfl (by rfl) (m_alloc zr56 rfl rfl) ?_
      refine rgm_m (k := 7) rfl rfl (by rfl) (m_store sz56 rfl rfl (by exact .inr ⟨_, rfl⟩) rfl rfl (by decide) rfl) ?_
      refine rgm_q rfl (q_assign (x := .d (.v _)) rfl) ?_
      refine rgm_nil ?_
      refine aops_nil ?_
      change Awp _ _ _ _ _
      refine awp_seq ?_
      refine awp_region 4 mixed (by kernel_rfl) ?_
      refine rg_q (q_loadA (ds := [_, _, _, _, _]) sz35 rfl rfl rfl) ?_
      refine rg_q (q_move (x := .d (.sl _ _)) rfl) ?_
      refine rg_q (q_call en43 (.cons rfl (.cons rfl .nil)) rfl (rpowersErr_p _ _)) ?_
      refine rg_q (q_assign (x := .d (.v _)) rfl) ?_
      refine rg_nil ?_
      refine aops_nil ?_
      change Awp _ _ _ _ _
      refine awp_seq ?_
      refine awp_seq ?_
      refine awp_region 2 mixed (by kernel_rfl) ?_
      refine rg_q (q_move (x := .d (.v _)) rfl) ?_
      refine rg_q (q_eql rfl rfl) ?_
      refine rg_nil ?_
      refine aops_nil ?_
      change Awp _ _ _ _ _
      refine awp_cond rfl (fun hc7 => ?_) (fun hc7 => ?_)
      ·
        (try simp only [decide_eq_true_eq, decide_eq_false_iff_not, Bool.and_eq_true, Bool.or_eq_true, Bool.and_eq_false_iff, Bool.or_eq_false_iff, Bool.not_eq_true', Bool.not_eq_false', Bool.not_true, Bool.not_false, bif_and, bif_or, Bool.not_not, ne_eq, Decidable.not_not, not_true_eq_false, not_false_eq_true, Int.not_le, Int.not_lt] at hc7)
        have h0 : ofE g pw = 0 := hc7
        obtain ⟨hfk, _⟩ := of_ok h0
        have hg := hfk.gr
        refine awp_region 4 mixed (by kernel_rfl) ?_
        refine rg_q (q_loadA (ds := [_, _, _, _, _]) sz35 rfl rfl rfl) ?_
        refine rg_q (q_loadA (ds := [_, _, _, _]) sz79 rfl rfl rfl) ?_
        refine rg_q (q_call en44 (.cons rfl (.cons rfl .nil)) rfl (rdropErr_p _ _ (by assumption))) ?_
        refine rg_q (q_assign (x := .d (.v _)) rfl) ?_
        refine rg_nil ?_
        refine aops_nil ?_
        change Awp _ _ _ _ _
        refine awp_seq ?_
        refine awp_seq ?_
        refine awp_region 2 mixed (by kernel_rfl) ?_
        refine rg_q (q_move (x := .d (.v _)) rfl) ?_
        refine rg_q (q_neq rfl rfl) ?_
        refine rg_nil ?_
        refine aops_nil ?_
        change Awp _ _ _ _ _
        refine awp_cond rfl (fun hc9 => ?_) (fun hc9 => ?_)
        ·
          (try simp only [decide_eq_true_eq, decide_eq_false_iff_not, Bool.and_eq_true, Bool.or_eq_true, Bool.and_eq_false_iff, Bool.or_eq_false_iff, Bool.not_eq_true', Bool.not_eq_false', Bool.not_true, Bool.not_false, bif_and, bif_or, Bool.not_not, ne_eq, Decidable.not_not, not_true_eq_false, not_false_eq_true, Int.not_le, Int.not_lt] at hc9)
          have hz : dropR g pw x = ((0, 0), drE g x) := by unfold dropR; rw [if_neg (fun q => q h0), if_pos hc9]
          refine awp_seq ?_
          refine awp_region 9 mixed (by kernel_rfl) ?_
          refine rg_q (q_move (x := .d (.v _)) rfl) ?_
          refine rg_q (q_move (x := .d (.v _)) rfl) ?_
          refine rg_q (q_eql rfl rfl) ?_
          refine rg_q (q_move (x := .d (.v _)) rfl) ?_
          refine rg_g rfl rfl (fun hG => (q_load_refA (ds := [_, _]) sz56 rfl rfl rfl rfl)) ?_
          refine rg_g rfl rfl (fun hG => (q_build (cs := [_, _]) pl56 zr56 rfl .nil trivial rfl)) ?_
          refine rg_g rfl rfl (fun hG => (q_eqlI (xs := [_, _]) (ys := [_, _]) eqi56 rfl rfl rfl rfl)) ?_
          refine rg_pick rfl rfl rfl rfl rfl rfl ?_
          refine rg_q (q_assign (x := .d (.v _)) rfl) ?_
          refine rg_nil ?_
          refine aops_nil ?_
          change Awp _ _ _ _ _
          refine awp_ret ?_
          refine ⟨_, (.cons (.tmp (by exact .d _)) .nil), ?_⟩
          rw [hz]; simp [retD, shC]
        ·
          (try simp only [decide_eq_true_eq, decide_eq_false_iff_not, Bool.and_eq_true, Bool.or_eq_true, Bool.and_eq_false_iff, Bool.or_eq_false_iff, Bool.not_eq_true', Bool.not_eq_false', Bool.not_true, Bool.not_false, bif_and, bif_or, Bool.not_not, ne_eq, Decidable.not_not, not_true_eq_false, not_false_eq_true, Int.not_le, Int.not_lt] at hc9)
          have hd0 : drE g x = 0 := hc9
          have hz : dropR g pw x = (dpR g pw x, 0) := by unfold dropR; rw [if_neg (fun q => q h0), if_neg (fun q => q hd0)]
          obtain ⟨hcl, n1, n2, n3⟩ := drE_ok hd0
          obtain ⟨q1, q2⟩ := clE_ok hcl
          have c1 := hg.c1
          have r2 := hg.r2
          have c2 := hg.c2
          obtain ⟨⟨m1, m2⟩, ⟨d1, d2⟩, hce⟩ := ce_in hg q1 q2
          have hin : inR (dpR g pw x).1 (dpO g x) (dpR g pw x).2 = true := inR_iff.2 ⟨dpDn_le _ _, dpUp_ge _ _⟩
          refine awp_skip ?_
          change Awp _ _ _ _ _
          refine awp_seq ?_
          refine awp_region 6 mixed (by kernel_rfl) ?_
          refine rg_q (q_fieldAddr fld79_0 rfl) ?_
          refine rg_q (q_load sz3 rfl rfl) ?_
          refine rg_q (q_fieldAddr fld35_1 rfl) ?_
          refine rg_q (q_load sz3 rfl rfl) ?_
          refine rg_q (q_rem rfl rfl (by omega)) ?_
          refine rg_q (q_assign (x := .d (.v _)) rfl) ?_
          refine rg_nil ?_
          refine aops_nil ?_
          change Awp _ _ _ _ _
          refine awp_seq ?_
          refine awp_seq ?_
          refine awp_region 2 mixed (by kernel_rfl) ?_
          refine rg_q (q_fieldAddr fld79_1 rfl) ?_
          refine rg_q (q_load sz4 rfl rfl) ?_
          refine rg_nil ?_
          refine aops_nil ?_
          change Awp _ _ _ _ _
          refine awp_cond rfl (fun hc12 => ?_) (fun hc12 => ?_)
          ·
            (try simp only [decide_eq_true_eq, decide_eq_false_iff_not, Bool.and_eq_true, Bool.or_eq_true, Bool.and_eq_false_iff, Bool.or_eq_false_iff, Bool.not_eq_true', Bool.not_eq_false', Bool.not_true, Bool.not_false, bif_and, bif_or, Bool.not_not, ne_eq, Decidable.not_not, not_true_eq_false, not_false_eq_true, Int.not_le, Int.not_lt] at hc12)
            have hdo : x.ce.tdiv g.co = dpO g x := by unfold dpO; rw [if_pos (show x.dn = true from hc12)]
            refine awp_region 6 mixed (by kernel_rfl) ?_
            refine rg_q (q_fieldAddr fld79_0 rfl) ?_
            refine rg_q (q_load sz3 rfl rfl) ?_
            refine rg_q (q_fieldAddr fld35_1 rfl) ?_
            refine rg_q (q_load sz3 rfl rfl) ?_
            refine rg_q (q_quo rfl rfl (by omega) (In64.mk (by omega) (by omega))) ?_
            refine rg_q (q_assign (x := .d (.v _)) rfl) ?_
            refine rg_nil ?_
            refine aops_nil ?_
            change Awp _ _ _ _ _
            refine awp_seq ?_
            refine awp_region 19 mixed (by kernel_rfl) ?_
            refine rg_q (q_move (x := .d (.v _)) rfl) ?_
            refine rg_q (q_eql rfl rfl) ?_
            refine rg_q (q_move (x := .d (.v _)) rfl) ?_
            refine rg_g rfl rfl (fun hG => (q_load_refA (ds := [_, _]) sz56 rfl rfl rfl rfl)) ?_
            refine rg_g rfl rfl (fun hG => (q_loadA (ds := [_, _, _, _, _]) sz35 rfl rfl rfl)) ?_
            refine rg_g rfl rfl (fun hG => (q_move (x := .d (.sl _ _)) rfl)) ?_
            refine rg_g rfl rfl (fun hG => (q_loadA (ds := [_, _, _, _]) sz79 rfl rfl rfl)) ?_
            refine rg_g rfl rfl (fun hG => (q_call en45 (.cons rfl (.cons rfl (.cons rfl .nil))) rfl (rdropOf_p _ _ _ (by assumption) (by assumption)))) ?_
            refine rg_g rfl rfl (fun hG => (q_eqlI (xs := [_, _]) (ys := [_, _]) eqi56 rfl rfl rfl rfl)) ?_
            refine rg_pick rfl rfl rfl rfl rfl rfl ?_
            refine rg_q (q_move (x := .d (.v _)) rfl) ?_
            refine rg_g rfl rfl (fun hG => (q_move (x := .d (.v _)) rfl)) ?_
            refine rg_g rfl rfl (fun hG => (q_fieldAddr_ref fld56_0 rfl)) ?_
            refine rg_g rfl rfl (fun hG => (q_load_ref sz3 rfl rfl rfl)) ?_
            refine rg_g rfl rfl (fun hG => (q_fieldAddr_ref fld56_1 rfl)) ?_
            refine rg_g rfl rfl (fun hG => (q_load_ref sz3 rfl rfl rfl)) ?_
            refine rg_g rfl rfl (fun hG => (q_call en31 (.cons rfl (.cons rfl (.cons rfl .nil))) rfl (within4_p _ _ _))) ?_
            refine rg_pick rfl rfl rfl rfl rfl rfl ?_
            refine rg_q (q_assign (x := .d (.v _)) rfl) ?_
            refine rg_nil ?_
            refine aops_nil ?_
            change Awp _ _ _ _ _
            refine awp_ret ?_
            refine ⟨_, (.cons (.tmp (by exact .d _)) .nil), ?_⟩
            rw [hz, hdo]; simp [retD, shC, hin]
          ·
            (try simp only [decide_eq_true_eq, decide_eq_false_iff_not, Bool.and_eq_true, Bool.or_eq_true, Bool.and_eq_false_iff, Bool.or_eq_false_iff, Bool.not_eq_true', Bool.not_eq_false', Bool.not_true, Bool.not_false, bif_and, bif_or, Bool.not_not, ne_eq, Decidable.not_not, not_true_eq_false, not_false_eq_true, Int.not_le, Int.not_lt] at hc12)
            have hdo : x.ce.tmod g.co = dpO g x := by unfold dpO; rw [if_neg (show ¬ x.dn = true from by rw [hc12]; decide)]
            refine awp_skip ?_
            change Awp _ _ _ _ _
            refine awp_seq ?_
            refine awp_region 19 mixed (by kernel_rfl) ?_
            refine rg_q (q_move (x := .d (.v _)) rfl) ?_
            refine rg_q (q_eql rfl rfl) ?_
            refine rg_q (q_move (x := .d (.v _)) rfl) ?_
            refine rg_g rfl rfl (fun hG => (q_load_refA (ds := [_, _]) sz56 rfl rfl rfl rfl)) ?_
            refine rg_g rfl rfl (fun hG => (q_loadA (ds := [_, _, _, _, _]) sz35 rfl rfl rfl)) ?_
            refine rg_g rfl rfl (fun hG => (q_move (x := .d (.sl _ _)) rfl)) ?_
            refine rg_g rfl rfl (fun hG => (q_loadA (ds := [_, _, _, _]) sz79 rfl rfl rfl)) ?_
            refine rg_g rfl rfl (fun hG => (q_call en45 (.cons rfl (.cons rfl (.cons rfl .nil))) rfl (rdropOf_p _ _ _ (by assumption) (by assumption)))) ?_
            refine rg_g rfl rfl (fun hG => (q_eqlI (xs := [_, _]) (ys := [_, _]) eqi56 rfl rfl rfl rfl)) ?_
            refine rg_pick rfl rfl rfl rfl rfl rfl ?_
            refine rg_q (q_move (x := .d (.v _)) rfl) ?_
            refine rg_g rfl rfl (fun hG => (q_move (x := .d (.v _)) rfl)) ?_
            refine rg_g rfl rfl (fun hG => (q_fieldAddr_ref fld56_0 rfl)) ?_
            refine rg_g rfl rfl (fun hG => (q_load_ref sz3 rfl rfl rfl)) ?_
            refine rg_g rfl rfl (fun hG => (q_fieldAddr_ref fld56_1 rfl)) ?_
            refine rg_g rfl rfl (fun hG => (q_load_ref sz3 rfl rfl rfl)) ?_
            refine rg_g rfl rfl (fun hG => (q_call en31 (.cons rfl (.cons rfl (.cons rfl .nil))) rfl (within4_p _ _ _))) ?_
            refine rg_pick rfl rfl rfl rfl rfl rfl ?_
            refine rg_q (q_assign (x := .d (.v _)) rfl) ?_
            refine rg_nil ?_
            refine aops_nil ?_
            change Awp _ _ _ _ _
            refine awp_ret ?_
            refine ⟨_, (.cons (.tmp (by exact .d _)) .nil), ?_⟩
            rw [hz, hdo]; simp [retD, shC, hin]
      ·
        (try simp only [decide_eq_true_eq, decide_eq_false_iff_not, Bool.and_eq_true, Bool.or_eq_true, Bool.and_eq_false_iff, Bool.or_eq_false_iff, Bool.not_eq_true', Bool.not_eq_false', Bool.not_true, Bool.not_false, bif_and, bif_or, Bool.not_not, ne_eq, Decidable.not_not, not_true_eq_false, not_false_eq_true, Int.not_le, Int.not_lt] at hc7)
        refine awp_skip ?_
        change Awp _ _ _ _ _
        refine awp_seq ?_
        refine awp_seq ?_
        refine awp_region 2 mixed (by kernel_rfl) ?_
        refine rg_q (q_move (x := .d (.v _)) rfl) ?_
        refine rg_q (q_neq rfl rfl) ?_
        refine rg_nil ?_
        refine aops_nil ?_
        change Awp _ _ _ _ _
        refine awp_cond rfl (fun hc9 => ?_) (fun hc9 => ?_)
        ·
          (try simp only [decide_eq_true_eq, decide_eq_false_iff_not, Bool.and_eq_true, Bool.or_eq_true, Bool.and_eq_false_iff, Bool.or_eq_false_iff, Bool.not_eq_true', Bool.not_eq_false', Bool.not_true, Bool.not_false, bif_and, bif_or, Bool.not_not, ne_eq, Decidable.not_not, not_true_eq_false, not_false_eq_true, Int.not_le, Int.not_lt] at hc9)
          have hz : dropR g pw x = ((0, 0), ofE g pw) := by unfold dropR; rw [if_pos hc9]
          refine awp_seq ?_
          refine awp_region 9 mixed (by kernel_rfl) ?_
          refine rg_q (q_move (x := .d (.v _)) rfl) ?_
          refine rg_q (q_move (x := .d (.v _)) rfl) ?_
          refine rg_q (q_eql rfl rfl) ?_
          refine rg_q (q_move (x := .d (.v _)) rfl) ?_
          refine rg_g rfl rfl (fun hG => (q_load_refA (ds := [_, _]) sz56 rfl rfl rfl rfl)) ?_
          refine rg_g rfl rfl (fun hG => (q_build (cs := [_, _]) pl56 zr56 rfl .nil trivial rfl)) ?_
          refine rg_g rfl rfl (fun hG => (q_eqlI (xs := [_, _]) (ys := [_, _]) eqi56 rfl rfl rfl rfl)) ?_
          refine rg_pick rfl rfl rfl rfl rfl rfl ?_
          refine rg_q (q_assign (x := .d (.v _)) rfl) ?_
          refine rg_nil ?_
          refine aops_nil ?_
          change Awp _ _ _ _ _
          refine awp_ret ?_
          refine ⟨_, (.cons (.tmp (by exact .d _)) .nil), ?_⟩
          rw [hz]; simp [retD, shC]
        ·
          simp at hc9
          exact absurd hc9 hc7
end Go.Proofs.YtphlaicnmmglhaaGreat.Am.M
