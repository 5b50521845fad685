/- Contracts over the abstract machine: package focus: grids. Conditions: none. -/
import Derived.Test.YtphlaicnmmglhaaGreatE1
set_option linter.unusedVariables false
set_option linter.unusedSimpArgs false
-- mini
namespace Go.Proofs.YtphlaicnmmglhaaGreat.Am.M
open Go
set_option maxRecDepth 100000 in
theorem fwithin_p (n lo hi : Int) : PC Tryz.prog 89 [.v (.int .i64 (n)), .v (.int .i64 (lo)), .v (.int .i64 (hi))] (.v (.bool (inR lo n hi))) := by
 refine pc_of_awp Tryz.func89 rfl Tryz.ntmps89 (rs := [.tmp 6]) Tryz.results89 (by simp) fun w0 => ?_
 refine awp_seq ?_
 refine awp_region 1 mixed (by kernel_rfl) ?_
 refine rg_q (q_assign (x := .d (.v _)) rfl) ?_
 refine rg_nil (aops_nil ?_)
 change Awp _ _ _ _ _
 refine awp_seq ?_
 refine awp_region 9 mixed (by kernel_rfl) ?_
 refine rg_q (q_move (x := .d (.v _)) rfl) (rg_q (q_move (x := .d (.v _)) rfl) (rg_q (q_leq rfl rfl) (rg_q (q_move (x := .d (.v _)) rfl) ?_)))
 refine rg_g rfl rfl (fun hG => (q_move (x := .d (.v _)) rfl)) ?_
 refine rg_g rfl rfl (fun hG => (q_move (x := .d (.v _)) rfl)) ?_
 refine rg_g rfl rfl (fun hG => (q_leq rfl rfl)) ?_
 refine rg_pick rfl rfl rfl rfl rfl rfl ?_
 refine rg_q (q_assign (x := .d (.v _)) rfl) ?_
 refine rg_nil (aops_nil ?_)
 change Awp _ _ _ _ _
 refine awp_ret ?_
 refine ⟨_, (.cons (.tmp (by exact .d _)) .nil), ?_⟩
 simp only [bif_and]; rfl
set_option maxRecDepth 100000 in
theorem fsmall_p (n m : Int) (h1 : 0 ≤ m) (h2 : m ≤ 1000000000000) : PC Tryz.prog 166 [.v (.int .i64 (n)), .v (.int .i64 (m))] (.v (.bool (inR (-m) n m))) := by
 refine pc_of_awp Tryz.func166 rfl Tryz.ntmps166 (rs := [.tmp 4]) Tryz.results166 (by simp) fun w0 => ?_
 refine awp_seq ?_
 refine awp_region 1 mixed (by kernel_rfl) ?_
 refine rg_q (q_assign (x := .d (.v _)) rfl) ?_
 refine rg_nil (aops_nil ?_)
 change Awp _ _ _ _ _
 refine awp_seq ?_
 refine awp_region 6 mixed (by kernel_rfl) ?_
 refine rg_q (q_move (x := .d (.v _)) rfl) (rg_q (q_move (x := .d (.v _)) rfl) ?_)
 refine rg_q (q_neg rfl (In64.mk (by omega) (by omega))) ?_
 refine rg_q (q_move (x := .d (.v _)) rfl) ?_
 refine rg_q (q_call en89 (.cons rfl (.cons rfl (.cons rfl .nil))) rfl (fwithin_p _ _ _)) ?_
 refine rg_q (q_assign (x := .d (.v _)) rfl) ?_
 refine rg_nil (aops_nil ?_)
 change Awp _ _ _ _ _
 refine awp_ret ?_
 refine ⟨_, (.cons (.tmp (by exact .d _)) .nil), ?_⟩
 rfl
set_option maxRecDepth 100000 in
theorem ffirst_p (l : List Int) : PC Tryz.prog 117 [.sl 1 (l.map iC)] (.v (.int .i64 (firstE l))) := by
 refine pc_of_awp Tryz.func117 rfl Tryz.ntmps117 (rs := [.tmp 2]) Tryz.results117 (by simp) fun w0 => ?_
 refine awp_seq ?_
 refine awp_region 1 mixed (by kernel_rfl) ?_
 refine rg_q (q_assign (x := .d (.v _)) rfl) ?_
 refine rg_nil (aops_nil ?_)
 change Awp _ _ _ _ _
 refine awp_seq ?_
 refine awp_seq ?_
 refine awp_region 3 mixed (by kernel_rfl) ?_
 refine rg_q (q_move (x := .d (.sl _ _)) rfl) ?_
 refine rg_q (q_len isl282 rfl (by exact len_map _ _)) ?_
 refine rg_q (q_move (x := .d (.v _)) rfl) ?_
 refine rg_nil (aops_nil ?_)
 change Awp _ _ _ _ _
 refine awp_len (t := 5) rfl (fun hl5 => ?_)
 (try simp only [List.length_map] at hl5)
 refine awp_block ?_
 refine awp_loopH [2, 4, 7, 8, 9, 10, 11, 12, 13, 14] [] (α := Nat) (fun k => [(7, T.i (k : Int))]) (fun k => []) (fun k => k ≤ l.length ∧ firstE l = firstE (l.drop k)) (fun k => l.length - k) 0 ⟨Nat.zero_le _, rfl⟩ ?_ ?_
 · exact le_head (ms := []) (by repeat (exact Out.refl _)) ⟨(by rfl), trivial⟩ trivial rfl rfl rfl rfl
 ·
  intro k ⟨hk, hf⟩
  refine awp_seq ?_
  refine awp_region 1 mixed (by kernel_rfl) ?_
  refine rg_q (q_lss rfl rfl) ?_
  refine rg_nil (aops_nil ?_)
  change Awp _ _ _ _ _
  refine awp_seq ?_
  refine awp_cond rfl (fun hc2 => ?_) (fun hc2 => ?_)
  ·
   (try simp only [nb, ne_eq] at hc2)
   have hlt : k < l.length := by omega
   have hx := List.getElem?_eq_getElem hlt
   have hd : firstE (l.drop k) = if l[k] = 0 then firstE (l.drop (k + 1)) else l[k] := by rw [List.drop_eq_getElem_cons hlt]; rfl
   generalize l[k] = x at *
   refine awp_skip ?_
   change Awp _ _ _ _ _
   refine awp_seq ?_
   refine awp_block ?_
   refine awp_seq ?_
   refine awp_region 3 mixed (by kernel_rfl) ?_
   refine rg_q (q_indexAddr sl282 rfl rfl (by omega) (map_at (by omega) hx)) ?_
   refine rg_q (q_load sz40 rfl rfl) (rg_q (q_assign (x := .d (.v _)) rfl) ?_)
   refine rg_nil (aops_nil ?_)
   change Awp _ _ _ _ _
   refine awp_seq ?_
   refine awp_region 2 mixed (by kernel_rfl) ?_
   refine rg_q (q_move (x := .d (.v _)) rfl) (rg_q (q_neq rfl rfl) ?_)
   refine rg_nil (aops_nil ?_)
   change Awp _ _ _ _ _
   refine awp_cond rfl (fun hc4 => ?_) (fun hc4 => ?_)
   ·
    (try simp only [nb, ne_eq] at hc4)
    refine awp_seq ?_
    refine awp_region 2 mixed (by kernel_rfl) ?_
    refine rg_q (q_move (x := .d (.v _)) rfl) (rg_q (q_assign (x := .d (.v _)) rfl) ?_)
    refine rg_nil (aops_nil ?_)
    change Awp _ _ _ _ _
    refine awp_ret ?_
    refine ⟨_, (.cons (.tmp (by exact .d _)) .nil), ?_⟩
    rw [hf, hd, if_neg hc4]; rfl
   ·
    (try simp only [nb, ne_eq] at hc4)
    refine awp_skip ?_
    change Awp _ _ _ _ _
    refine awp_region 2 mixed (by kernel_rfl) ?_
    refine rg_q (q_add rfl rfl (In64.mk (by omega) (by omega))) ?_
    refine rg_q (q_move (x := .d (.v _)) rfl) ?_
    refine rg_nil (aops_nil ?_)
    refine ⟨k + 1, ⟨by omega, by rw [hf, hd, if_pos hc4]⟩, by omega, ?_⟩
    exact le_head (ms := []) (by repeat (first | exact Out.head rfl rfl | (refine Out.put ?_ rfl))) ⟨(by rfl), trivial⟩ trivial rfl rfl rfl rfl
  ·
   (try simp only [nb, ne_eq] at hc2)
   refine awp_exit ?_
   change Awp _ _ _ _ _
   refine awp_seq ?_
   refine awp_region 1 mixed (by kernel_rfl) ?_
   refine rg_q (q_assign (x := .d (.v _)) rfl) ?_
   refine rg_nil (aops_nil ?_)
   change Awp _ _ _ _ _
   refine awp_ret ?_
   refine ⟨_, (.cons (.tmp (by exact .d _)) .nil), ?_⟩
   rw [hf, List.drop_of_length_le (by omega)]; rfl
set_option maxRecDepth 100000 in
theorem fwhen_p (b : Bool) (e : Int) : PC Tryz.prog 88 [.v (.bool (b)), .v (.int .i64 (e))] (.v (.int .i64 (whenI b e))) := by
 refine pc_of_awp Tryz.func88 rfl Tryz.ntmps88 (rs := [.tmp 4]) Tryz.results88 (by simp) fun w0 => ?_
 refine awp_seq ?_
 refine awp_region 1 mixed (by kernel_rfl) ?_
 refine rg_q (q_assign (x := .d (.v _)) rfl) ?_
 refine rg_nil (aops_nil ?_)
 change Awp _ _ _ _ _
 refine awp_seq ?_
 refine awp_seq ?_
 refine awp_region 1 mixed (by kernel_rfl) ?_
 refine rg_q (q_move (x := .d (.v _)) rfl) ?_
 refine rg_nil (aops_nil ?_)
 change Awp _ _ _ _ _
 refine awp_cond rfl (fun hc1 => ?_) (fun hc1 => ?_)
 ·
  (try simp only [nb, ne_eq] at hc1)
  have hz : whenI b e = e := by unfold whenI; rw [if_pos hc1]
  refine awp_seq ?_
  refine awp_region 2 mixed (by kernel_rfl) ?_
  refine rg_q (q_move (x := .d (.v _)) rfl) (rg_q (q_assign (x := .d (.v _)) rfl) ?_)
  refine rg_nil (aops_nil ?_)
  change Awp _ _ _ _ _
  refine awp_ret ?_
  refine ⟨_, (.cons (.tmp (by exact .d _)) .nil), ?_⟩
  rw [hz]; rfl
 ·
  (try simp only [nb, ne_eq] at hc1)
  have hz : whenI b e = 0 := by unfold whenI; rw [if_neg (by simpa using hc1)]
  refine awp_skip ?_
  change Awp _ _ _ _ _
  refine awp_seq ?_
  refine awp_region 1 mixed (by kernel_rfl) ?_
  refine rg_q (q_assign (x := .d (.v _)) rfl) ?_
  refine rg_nil (aops_nil ?_)
  change Awp _ _ _ _ _
  refine awp_ret ?_
  refine ⟨_, (.cons (.tmp (by exact .d _)) .nil), ?_⟩
  rw [hz]; rfl

structure Grd where
  fx : Int
  fz : Int
  co : Int
  ro : Int
  st : Int
def grdC (g : Grd) : List D := [.v (.int .i64 g.fx), .v (.int .i64 g.fz), .v (.int .i64 g.co), .v (.int .i64 g.ro), .v (.int .i64 g.st)]
def spI (g : Grd) (c : Int) : Int × Int := (g.fx + c.tmod g.co * g.st, g.fz + c.tdiv g.co * g.st)
structure GrdOk (g : Grd) : Prop where
  x1 : -100000 ≤ g.fx
  x2 : g.fx ≤ 100000
  z1 : -100000 ≤ g.fz
  z2 : g.fz ≤ 100000
  c1 : 1 ≤ g.co
  c2 : g.co ≤ 40
  r1 : 1 ≤ g.ro
  r2 : g.ro ≤ 40
  s1 : 1 ≤ g.st
  s2 : g.st ≤ 10000
def grdB (g : Grd) : Bool := inR (-100000) g.fx 100000 && inR (-100000) g.fz 100000 && inR 1 g.co 40 && inR 1 g.ro 40 && inR 1 g.st 10000
theorem inR_iff {l h a : Int} : inR l a h = true ↔ l ≤ a ∧ a ≤ h := by unfold inR; simp
theorem grdB_ok {g : Grd} (h : grdB g = true) : GrdOk g := by
  unfold grdB at h
  simp only [Bool.and_eq_true, inR_iff] at h
  obtain ⟨⟨⟨⟨⟨a1, a2⟩, b1, b2⟩, c1, c2⟩, d1, d2⟩, e1, e2⟩ := h
  exact ⟨a1, a2, b1, b2, c1, c2, d1, d2, e1, e2⟩
theorem cells_in {g : Grd} (h : GrdOk g) : 1 ≤ g.co * g.ro ∧ g.co * g.ro ≤ 1600 := by
  obtain ⟨_, _, _, _, c1, c2, r1, r2, _, _⟩ := h
  have h1 := mulb (a := g.co) (b := g.ro) (A := 40) (B := 40) (by omega) (by omega) (by omega) (by omega)
  have h2 := Int.mul_le_mul c1 r1 (by omega) (by omega)
  omega
theorem tmodP_in {c b : Int} (hc : 0 ≤ c) (hb : 1 ≤ b) : 0 ≤ c.tmod b ∧ c.tmod b < b := ⟨Int.tmod_nonneg _ hc, Int.tmod_lt_of_pos _ (by omega)⟩
theorem tdivP_in {c b : Int} (hc : 0 ≤ c) (hb : 1 ≤ b) : 0 ≤ c.tdiv b ∧ c.tdiv b ≤ c := by
  rw [Int.tdiv_eq_ediv_of_nonneg hc]
  exact ⟨Int.ediv_nonneg hc (by omega), Int.ediv_le_self _ hc⟩
theorem spot_in {g : Grd} (h : GrdOk g) {c : Int} (h1 : 0 ≤ c) (h2 : c ≤ 10000) : (0 ≤ c.tmod g.co * g.st ∧ c.tmod g.co * g.st ≤ 1000000) ∧ 0 ≤ c.tdiv g.co * g.st ∧ c.tdiv g.co * g.st ≤ 100000000 := by
  obtain ⟨_, _, _, _, c1, c2, r1, r2, s1, s2⟩ := h
  obtain ⟨m1, m2⟩ := tmodP_in h1 c1
  obtain ⟨d1, d2⟩ := tdivP_in h1 c1
  have a1 := mulb (a := c.tmod g.co) (b := g.st) (A := 100) (B := 10000) (by omega) (by omega) (by omega) (by omega)
  have a2 := mulb (a := c.tdiv g.co) (b := g.st) (A := 10000) (B := 10000) (by omega) (by omega) (by omega) (by omega)
  have a3 := Int.mul_nonneg m1 (show 0 ≤ g.st by omega)
  have a4 := Int.mul_nonneg d1 (show 0 ≤ g.st by omega)
  omega
set_option maxRecDepth 100000 in
theorem fcells_p (g : Grd) (hg : GrdOk g) : PC Tryz.prog 91 [.agg (grdC g)] (.v (.int .i64 (g.co * g.ro))) := by
 have hci := cells_in hg
 obtain ⟨x1, x2, z1, z2, c1, c2, r1, r2, s1, s2⟩ := hg
 refine pc_of_awp Tryz.func91 rfl Tryz.ntmps91 (rs := [.tmp 2]) Tryz.results91 (by simp) fun w0 => ?_
 refine awp_seq ?_
 refine awp_region 2 mixed (by kernel_rfl) ?_
 refine rg_q (q_box rfl (by exact .inr ⟨_, rfl⟩)) ?_
 refine rg_q (q_assign (x := .d (.v _)) rfl) ?_
 refine rg_nil (aops_nil ?_)
 change Awp _ _ _ _ _
 refine awp_seq ?_
 refine awp_region 8 mixed (by kernel_rfl) ?_
 refine rg_q (q_fieldAddr fld150_0 rfl) (rg_q (q_fieldAddr fld35_1 rfl) (rg_q (q_load sz3 rfl rfl) (rg_q (q_fieldAddr fld150_0 rfl) (rg_q (q_fieldAddr fld35_2 rfl) (rg_q (q_load sz3 rfl rfl) ?_)))))
 refine rg_q (q_mul rfl rfl (In64.mk (by omega) (by omega))) ?_
 refine rg_q (q_assign (x := .d (.v _)) rfl) ?_
 refine rg_nil (aops_nil ?_)
 change Awp _ _ _ _ _
 refine awp_ret ?_
 refine ⟨_, (.cons (.tmp (by exact .d _)) .nil), ?_⟩
 rfl
set_option maxRecDepth 100000 in
theorem fspot_p (g : Grd) (c : Int) (hg : GrdOk g) (h1 : 0 ≤ c) (h2 : c ≤ 10000) : PC Tryz.prog 90 [.agg (grdC g), .v (.int .i64 (c))] (.agg (shC (spI g c))) := by
 have hsi := spot_in hg h1 h2
 obtain ⟨x1, x2, z1, z2, c1, c2, r1, r2, s1, s2⟩ := hg
 obtain ⟨m1, m2⟩ := tmodP_in h1 c1
 obtain ⟨d1, d2⟩ := tdivP_in h1 c1
 obtain ⟨⟨a1, a2⟩, a3, a4⟩ := hsi
 refine pc_of_awp Tryz.func90 rfl Tryz.ntmps90 (rs := [.cell 4 33]) Tryz.results90 (by simp) fun w0 => ?_
 refine awp_seq ?_
 refine awp_region 1 mixed (by kernel_rfl) ?_
 refine rg_q (q_box rfl (by exact .inr ⟨_, rfl⟩)) ?_
 refine rg_nil ?_
 refine aops_alloc zr33 rfl rfl rfl ?_
 refine aops_nil ?_
 change Awp _ _ _ _ _
 refine awp_seq ?_
 refine awp_region 29 mixed (by kernel_rfl) ?_
 refine rg_q (q_fieldAddr fld150_0 rfl) (rg_q (q_fieldAddr fld35_0 rfl) (rg_q (q_fieldAddr fld33_0 rfl) (rg_q (q_load sz3 rfl rfl) (rg_q (q_move (x := .d (.v _)) rfl) (rg_q (q_fieldAddr fld150_0 rfl) ?_)))))
 refine rg_q (q_fieldAddr fld35_1 rfl) (rg_q (q_load sz3 rfl rfl) ?_)
 refine rg_q (q_rem rfl rfl (by omega)) ?_
 refine rg_q (q_fieldAddr fld150_0 rfl) (rg_q (q_fieldAddr fld35_3 rfl) (rg_q (q_load sz3 rfl rfl) ?_))
 refine rg_q (q_mul rfl rfl (In64.mk (by omega) (by omega))) ?_
 refine rg_q (q_add rfl rfl (In64.mk (by omega) (by omega))) ?_
 refine rg_q (q_fieldAddr fld150_0 rfl) (rg_q (q_fieldAddr fld35_0 rfl) (rg_q (q_fieldAddr fld33_1 rfl) (rg_q (q_load sz3 rfl rfl) (rg_q (q_move (x := .d (.v _)) rfl) (rg_q (q_fieldAddr fld150_0 rfl) ?_)))))
 refine rg_q (q_fieldAddr fld35_1 rfl) (rg_q (q_load sz3 rfl rfl) ?_)
 refine rg_q (q_quo rfl rfl (by omega) (In64.mk (by omega) (by omega))) ?_
 refine rg_q (q_fieldAddr fld150_0 rfl) (rg_q (q_fieldAddr fld35_3 rfl) (rg_q (q_load sz3 rfl rfl) ?_))
 refine rg_q (q_mul rfl rfl (In64.mk (by omega) (by omega))) ?_
 refine rg_q (q_add rfl rfl (In64.mk (by omega) (by omega))) ?_
 refine rg_q (q_build (cs := [_, _]) pl33 zr33 rfl (.cons rfl (by exact .inl rfl) (.cons rfl (by exact .inl rfl) .nil)) ⟨⟨rfl, by decide⟩, ⟨rfl, by decide⟩, trivial⟩ rfl) ?_
 refine rg_nil ?_
 refine aops_store sz33 rfl rfl (by exact .inr ⟨_, rfl⟩) rfl rfl (by decide) rfl ?_
 refine aops_nil ?_
 change Awp _ _ _ _ _
 refine awp_ret ?_
 refine ⟨_, (.cons (.cellA rfl rfl sz33 rfl) .nil), ?_⟩
 rfl

def clE (g : Grd) (c : Int) : Int := whenI (!inR 0 c (g.co * g.ro - 1)) 6
def ckG (g : Grd) : Int := if grdB g = true then whenI (decide (100000 < (spI g (g.co * g.ro - 1)).1) || decide (100000 < (spI g (g.co * g.ro - 1)).2)) 8 else 2
theorem ckG_ok {g : Grd} (h : ckG g = 0) : GrdOk g ∧ (spI g (g.co * g.ro - 1)).1 ≤ 100000 ∧ (spI g (g.co * g.ro - 1)).2 ≤ 100000 := by
  unfold ckG at h
  by_cases h1 : grdB g = true
  · rw [if_pos h1, when_zero (by decide)] at h
    simp only [Bool.or_eq_false_iff, decide_eq_false_iff_not] at h
    exact ⟨grdB_ok h1, by omega, by omega⟩
  · rw [if_neg h1] at h; cases h
set_option maxRecDepth 100000 in
theorem fcellErr_p (g : Grd) (c : Int) (hg : GrdOk g) : PC Tryz.prog 118 [.agg (grdC g), .v (.int .i64 (c))] (.v (.int .i64 (clE g c))) := by
 have hci := cells_in hg
 refine pc_of_awp Tryz.func118 rfl Tryz.ntmps118 (rs := [.tmp 4]) Tryz.results118 (by simp) fun w0 => ?_
 refine awp_seq ?_
 refine awp_region 2 mixed (by kernel_rfl) ?_
 refine rg_q (q_box rfl (by exact .inr ⟨_, rfl⟩)) ?_
 refine rg_q (q_assign (x := .d (.v _)) rfl) ?_
 refine rg_nil (aops_nil ?_)
 change Awp _ _ _ _ _
 refine awp_seq ?_
 refine awp_region 8 mixed (by kernel_rfl) ?_
 refine rg_q (q_move (x := .d (.v _)) rfl) ?_
 refine rg_q (q_loadA (ds := [_, _, _, _, _]) sz150 rfl rfl rfl) ?_
 refine rg_q (q_call en91 (.cons rfl .nil) rfl (fcells_p _ (by assumption))) ?_
 refine rg_q (q_sub rfl rfl (In64.mk (by omega) (by omega))) ?_
 refine rg_q (q_call en89 (.cons rfl (.cons rfl (.cons rfl .nil))) rfl (fwithin_p _ _ _)) ?_
 refine rg_q (q_not rfl) ?_
 refine rg_q (q_call en88 (.cons rfl (.cons rfl .nil)) rfl (fwhen_p _ _)) ?_
 refine rg_q (q_assign (x := .d (.v _)) rfl) ?_
 refine rg_nil (aops_nil ?_)
 change Awp _ _ _ _ _
 refine awp_ret ?_
 refine ⟨_, (.cons (.tmp (by exact .d _)) .nil), ?_⟩
 rfl
set_option maxRecDepth 100000 in
theorem fcheckGrid_p (g : Grd) : PC Tryz.prog 87 [.agg (grdC g)] (.v (.int .i64 (ckG g))) := by
 refine pc_of_awpN Tryz.func87 rfl Tryz.ntmps87 (rs := [.tmp 2]) Tryz.results87 (by simp) fun w0 hmine hrnd hpn => ?_
 refine awp_seq ?_
 refine awp_region 2 mixed (by kernel_rfl) ?_
 refine rg_q (q_box rfl (by exact .inr ⟨_, rfl⟩)) ?_
 refine rg_q (q_assign (x := .d (.v _)) rfl) ?_
 refine rg_nil (aops_nil ?_)
 change Awp _ _ _ _ _
 refine awp_seq ?_
 refine awp_seq ?_
 refine awp_region 30 mixed (by kernel_rfl) ?_
 refine rg_q (q_fieldAddr fld35_0 rfl) (rg_q (q_fieldAddr fld33_0 rfl) (rg_q (q_load sz3 rfl rfl) ?_))
 refine rg_q (q_call en166 (.cons rfl (.cons rfl .nil)) rfl (fsmall_p _ _ (by omega) (by omega))) ?_
 refine rg_q (q_not rfl) (rg_q (q_move (x := .d (.v _)) rfl) ?_)
 refine rg_g rfl rfl (fun hG => (q_fieldAddr fld35_0 rfl)) ?_
 refine rg_g rfl rfl (fun hG => (q_fieldAddr fld33_1 rfl)) ?_
 refine rg_g rfl rfl (fun hG => (q_load sz3 rfl rfl)) ?_
 refine rg_g rfl rfl (fun hG => (q_call en166 (.cons rfl (.cons rfl .nil)) rfl (fsmall_p _ _ (by omega) (by omega)))) ?_
 refine rg_g rfl rfl (fun hG => (q_not rfl)) ?_
 refine rg_pick rfl rfl rfl rfl rfl rfl ?_
 refine rg_q (q_move (x := .d (.v _)) rfl) ?_
 refine rg_g rfl rfl (fun hG => (q_fieldAddr fld35_1 rfl)) ?_
 refine rg_g rfl rfl (fun hG => (q_load sz3 rfl rfl)) ?_
 refine rg_g rfl rfl (fun hG => (q_call en89 (.cons rfl (.cons rfl (.cons rfl .nil))) rfl (fwithin_p _ _ _))) ?_
 refine rg_g rfl rfl (fun hG => (q_not rfl)) ?_
 refine rg_pick rfl rfl rfl rfl rfl rfl ?_
 refine rg_q (q_move (x := .d (.v _)) rfl) ?_
 refine rg_g rfl rfl (fun hG => (q_fieldAddr fld35_2 rfl)) ?_
 refine rg_g rfl rfl (fun hG => (q_load sz3 rfl rfl)) ?_
 refine rg_g rfl rfl (fun hG => (q_call en89 (.cons rfl (.cons rfl (.cons rfl .nil))) rfl (fwithin_p _ _ _))) ?_
 refine rg_g rfl rfl (fun hG => (q_not rfl)) ?_
 refine rg_pick rfl rfl rfl rfl rfl rfl ?_
 refine rg_q (q_move (x := .d (.v _)) rfl) ?_
 refine rg_g rfl rfl (fun hG => (q_fieldAddr fld35_3 rfl)) ?_
 refine rg_g rfl rfl (fun hG => (q_load sz3 rfl rfl)) ?_
 refine rg_g rfl rfl (fun hG => (q_call en89 (.cons rfl (.cons rfl (.cons rfl .nil))) rfl (fwithin_p _ _ _))) ?_
 refine rg_g rfl rfl (fun hG => (q_not rfl)) ?_
 refine rg_pick rfl rfl rfl rfl rfl rfl ?_
 refine rg_nil (aops_nil ?_)
 change Awp _ _ _ _ _
 refine awp_cond rfl (fun hc1 => ?_) (fun hc1 => ?_)
 ·
  (try simp only [nb, ne_eq] at hc1)
  have hb : grdB g = false := by
   cases q : grdB g with
   | false => rfl
   | true => unfold grdB at q; simp_all
  have hz : ckG g = 2 := by unfold ckG; rw [hb]; rfl
  refine awp_seq ?_
  refine awp_region 1 mixed (by kernel_rfl) ?_
  refine rg_q (q_assign (x := .d (.v _)) rfl) ?_
  refine rg_nil (aops_nil ?_)
  change Awp _ _ _ _ _
  refine awp_ret ?_
  refine ⟨_, (.cons (.tmp (by exact .d _)) .nil), ?_⟩
  rw [hz]; (try simp only [bif_or]); rfl
 ·
  (try simp only [nb, ne_eq] at hc1)
  have hb : grdB g = true := by unfold grdB; simp_all
  have hg := grdB_ok hb
  have hci := cells_in hg
  have hz : ckG g = whenI (decide (100000 < (spI g (g.co * g.ro - 1)).1) || decide (100000 < (spI g (g.co * g.ro - 1)).2)) 8 := by unfold ckG; rw [if_pos hb]
  refine awp_skip ?_
  change Awp _ _ _ _ _
  refine awp_seq ?_
  refine awp_region 2 mixed (by kernel_rfl) ?_
  refine rg_q (q_loadA (ds := [_, _, _, _, _]) sz35 rfl rfl rfl) ?_
  refine rg_q (q_build (cs := [_, _, _, _, _]) pl150 zr150 rfl (.cons rfl (by exact .inr ⟨_, rfl⟩) .nil) ⟨⟨rfl, by decide⟩, trivial⟩ rfl) ?_
  refine rg_nil ?_
  refine aops_allocD zr150 rfl sz150 rfl rfl (by exact .inr ⟨_, rfl⟩) rfl rfl ?_
  refine aops_nil ?_
  change Awp _ _ _ _ _
  refine awp_seq ?_
  refine awp_regionM 7 [none, none, none, none, none, some 4, some 4] mixed (by kernel_rfl) ?_
  refine rgm_q rfl (q_loadA (ds := [_, _, _, _, _]) sz150 rfl rfl rfl) ?_
  refine rgm_q rfl (q_loadA (ds := [_, _, _, _, _]) sz150 rfl rfl rfl) ?_
  refine rgm_q rfl (q_call en91 (.cons rfl .nil) rfl (fcells_p _ (by assumption))) ?_
  refine rgm_q rfl (q_sub rfl rfl (In64.mk (by omega) (by omega))) ?_
  refine rgm_q rfl (q_call en90 (.cons rfl (.cons rfl .nil)) rfl (fspot_p _ _ (by assumption) (by omega) (by omega))) ?_
  refine rgm_m (k := 4) rfl rfl (by rfl) (m_alloc zr33 rfl rfl) ?_
  refine rgm_m (k := 4) rfl rfl (by rfl) (m_store sz33 rfl rfl (by exact .inr ⟨_, rfl⟩) rfl rfl (by decide) rfl) ?_
  refine rgm_nil (aops_nil ?_)
  change Awp _ _ _ _ _
  refine awp_seq ?_
  refine awp_region 10 mixed (by kernel_rfl) ?_
  refine rg_q (q_fieldAddr_ref fld33_0 rfl) (rg_q (q_load_ref sz3 rfl rfl rfl) (rg_q (q_gtr rfl rfl) (rg_q (q_move (x := .d (.v _)) rfl) ?_)))
  refine rg_g rfl rfl (fun hG => (q_fieldAddr_ref fld33_1 rfl)) ?_
  refine rg_g rfl rfl (fun hG => (q_load_ref sz3 rfl rfl rfl)) ?_
  refine rg_g rfl rfl (fun hG => (q_gtr rfl rfl)) ?_
  refine rg_pick rfl rfl rfl rfl rfl rfl ?_
  refine rg_q (q_call en88 (.cons rfl (.cons rfl .nil)) rfl (fwhen_p _ _)) ?_
  refine rg_q (q_assign (x := .d (.v _)) rfl) ?_
  refine rg_nil (aops_nil ?_)
  change Awp _ _ _ _ _
  refine awp_ret ?_
  refine ⟨_, (.cons (.tmp (by exact .d _)) .nil), ?_⟩
  rw [hz]; (try simp only [bif_or]); rfl
end Go.Proofs.YtphlaicnmmglhaaGreat.Am.M
