/- Contracts over the abstract machine: package focus: peaks. Conditions: none. -/
import Derived.Test.YtphlaicnmmglhaaGreatE10
set_option linter.unusedVariables false
set_option linter.unusedSimpArgs false
-- mini
namespace Go.Proofs.YtphlaicnmmglhaaGreat.Am.M
open Go

theorem arF_in {g : Grd} (hg : GrdOk g) {c : Int} (h1 : 0 ≤ c) {n : Int} (h : n ∈ arF g c (arM g c)) : 0 ≤ n ∧ n < g.co * g.ro := by
  have c1 := hg.c1
  have r1 := hg.r1
  unfold arF at h
  obtain ⟨p, hp, h⟩ := List.mem_flatMap.1 h
  unfold arR at h
  obtain ⟨h, _⟩ := List.mem_filter.1 h
  obtain ⟨q, hq, rfl⟩ := List.mem_map.1 h
  have hp := List.mem_range.1 hp
  have hq := List.mem_range.1 hq
  have hM : arM g c = (min (g.ro - 1) (c.tdiv g.co + 1) - max 0 (c.tdiv g.co - 1) + 1).toNat := rfl
  have hN : arN g c = (min (g.co - 1) (c.tmod g.co + 1) - max 0 (c.tmod g.co - 1) + 1).toNat := rfl
  generalize hr : max 0 (c.tdiv g.co - 1) + (p : Int) = r at *
  have e1 : 0 ≤ r ∧ r ≤ g.ro - 1 := by omega
  have e2 := Int.mul_nonneg e1.1 (show 0 ≤ g.co by omega)
  have e3 := Int.mul_le_mul_of_nonneg_right e1.2 (show 0 ≤ g.co by omega)
  rw [Int.sub_mul, Int.one_mul, Int.mul_comm g.ro g.co] at e3
  omega
theorem takeSnoc {α : Type} {l : List α} {k : Nat} {y : α} (h : l[k]? = some y) : l.take (k + 1) = l.take k ++ [y] := by
  obtain ⟨hlt, rfl⟩ := List.getElem?_eq_some_iff.1 h
  rw [List.take_succ_eq_append_getElem hlt]
theorem anySnoc {α : Type} {p : α → Bool} {l : List α} {y : α} (h : l.any p = false) (hy : p y = false) : (l ++ [y]).any p = false := by rw [List.any_append, h]; simp [hy]
def pwA (pw : List Int) (n : Int) : Int := pw.getD n.toNat 0
def pkB (pw : List Int) (c n : Int) : Bool := decide (pwA pw c < pwA pw n) || (decide (n < c) && decide (pwA pw n = pwA pw c))
def pkR (g : Grd) (pw : List Int) (c : Int) : Bool := !(arF g c (arM g c)).any (pkB pw c) && decide (0 < pwA pw c)
theorem pwA_at {pw : List Int} {n : Int} (h1 : 0 ≤ n) (h2 : n < (pw.length : Int)) : pw[n.toNat]? = some (pwA pw n) := by
  unfold pwA
  rw [List.getD_eq_getElem?_getD, List.getElem?_eq_getElem (by omega)]; rfl
set_option maxRecDepth 100000 in
theorem isPeak_p (g : Grd) (pw : List Int) (c : Int) (h : FldOk g pw) (h1 : 0 ≤ c) (h2 : c < (pw.length : Int)) : PC Tryz.prog 160 [.agg (fdC g pw), .v (.int .i64 (c))] (.v (.bool (pkR g pw c))) := by
 have hg := h.gr
 have hci := cells_in hg
 have hlen := h.len
 have hat := pwA_at h1 h2
 refine pc_of_awpN Tryz.func160 rfl Tryz.ntmps160 (rs := [.cell 4 4]) Tryz.results160 (by simp) fun w0 hmine hrnd hpn => ?_
 refine awp_seq ?_
 refine awp_region 2 mixed (by kernel_rfl) ?_
 refine rg_q (q_box rfl (by exact .inr ⟨_, rfl⟩)) ?_
 refine rg_q (q_box rfl (by exact .inl rfl)) ?_
 refine rg_nil ?_
 refine aops_alloc zr4 rfl rfl rfl ?_
 refine aops_nil ?_
 change Awp _ _ _ _ _
 refine awp_seq ?_
 refine awp_region 5 mixed (by kernel_rfl) ?_
 refine rg_q (q_fieldAddr fld193_1 rfl) (rg_q (q_load sz77 rfl rfl) (rg_q (q_load sz3 rfl rfl) ?_))
 refine rg_q (q_indexAddr sl77 rfl rfl (by omega) (map_at (k := c.toNat) (by omega) hat)) ?_
 refine rg_q (q_load sz3 rfl rfl) ?_
 refine rg_nil ?_
 refine aops_alloc zr3 rfl rfl rfl ?_
 refine aops_store sz3 rfl rfl (by exact .inl rfl) rfl rfl (by decide) rfl ?_
 refine aops_nil ?_
 change Awp _ _ _ _ _
 refine awp_seq ?_
 refine awp_seq ?_
 refine awp_region 3 mixed (by kernel_rfl) ?_
 refine rg_q (q_loadA (ds := [_, _, _, _, _, _]) sz193 rfl rfl rfl) ?_
 refine rg_q (q_load sz3 rfl rfl) ?_
 refine rg_q (q_call en233 (.cons rfl (.cons rfl .nil)) rfl (around_p _ _ _)) ?_
 refine rg_nil (aops_nil ?_)
 change Awp _ _ _ _ _
 refine awp_block ?_
 refine Awp.le (le_freeze 5 5 0 (cs := iC (pwA pw c)) rfl rfl rfl rfl hmine) ?_
 refine awp_rangeC (α := Int) (β := Nat) (n := 39) (enc := encA) (items := arF g c (arM g c)) 1000 [(2, .d (.pt (fdC g pw) 0)), (3, .d (.pt [.v (.int .i64 (c))] 0)), (4, .ref 4 0), (5, .d (.pt [.v (.int .i64 (pwA pw c))] 0)), (14, .d (.fn (.func 266) [.pt [.v (.int .i64 (c))] 0, .pt (fdC g pw) 0]))] (fun x => [(4, .box [.v (.bool (false))])]) (fun k x => x = k ∧ ((arF g c (arM g c)).take k).any (pkB pw c) = false) (fun e x => e = Exit.ret ∧ pkR g pw c = false) 0 hrnd ?_ (.inr ⟨rfl, rfl⟩) en266 (around_i g pw c h h1 (by omega)) rfl (fun _ => rfl) rfl (fun _ => by repeat first | exact trivial | refine ⟨by exact .v _, ?_⟩) (fun _ => rfl) ⟨rfl, rfl⟩ (fun h => by cases h) ?_ ?_ ?_
 · exact le_cst (fun k => k) _ _ rfl ⟨rfl, rfl, rfl, rfl, rfl, trivial⟩ ⟨rfl, trivial⟩ rfl (fun k b h => by rw [hpn k] at h; cases h)
 ·
  intro w1 hw1 k x y hI hy
  obtain ⟨rfl, hf⟩ := hI
  obtain ⟨hy1, hy2⟩ := arF_in hg h1 (List.mem_of_getElem? hy)
  have hya := pwA_at (pw := pw) hy1 (by omega)
  refine awp_region 1 mixed (by kernel_rfl) ?_
  refine rg_q (q_assign (x := .d (.v _)) rfl) ?_
  refine rg_nil (aops_nil ?_)
  refine ⟨rfl, fun w2 hw2 => ?_⟩
  refine awp_block ?_
  refine awp_seq ?_
  refine awp_region 21 mixed (by kernel_rfl) ?_
  refine rg_q (q_fieldAddr fld193_1 rfl) (rg_q (q_load sz77 rfl rfl) (rg_q (q_move (x := .d (.v _)) rfl) ?_))
  refine rg_q (q_indexAddr sl77 rfl rfl (by omega) (map_at (k := y.toNat) (by omega) hya)) ?_
  refine rg_q (q_load sz3 rfl rfl) (rg_q (q_load sz3 rfl rfl) (rg_q (q_gtr rfl rfl) (rg_q (q_move (x := .d (.v _)) rfl) ?_)))
  refine rg_g rfl rfl (fun hG => (q_move (x := .d (.v _)) rfl)) ?_
  refine rg_g rfl rfl (fun hG => (q_load sz3 rfl rfl)) ?_
  refine rg_g rfl rfl (fun hG => (q_lss rfl rfl)) ?_
  refine rg_g rfl rfl (fun hG => (q_move (x := .d (.v _)) rfl)) ?_
  refine rg_g rfl rfl (fun hG => (q_fieldAddr fld193_1 rfl)) ?_
  refine rg_g rfl rfl (fun hG => (q_load sz77 rfl rfl)) ?_
  refine rg_g rfl rfl (fun hG => (q_move (x := .d (.v _)) rfl)) ?_
  refine rg_g rfl rfl (fun hG => (q_indexAddr sl77 rfl rfl (by (have hg0 := T.bool_inj (a := _) hG.1; (try simp only [nb, ne_eq] at hg0); have hg1 := T.bool_inj (a := _) hG.2.1; (try simp only [nb, ne_eq] at hg1); omega)) (map_at (k := y.toNat) (by (have hg0 := T.bool_inj (a := _) hG.1; (try simp only [nb, ne_eq] at hg0); have hg1 := T.bool_inj (a := _) hG.2.1; (try simp only [nb, ne_eq] at hg1); omega)) hya))) ?_
  refine rg_g rfl rfl (fun hG => (q_load sz3 rfl rfl)) ?_
  refine rg_g rfl rfl (fun hG => (q_load sz3 rfl rfl)) ?_
  refine rg_g rfl rfl (fun hG => (q_eql rfl rfl)) ?_
  refine rg_pickg rfl rfl rfl rfl rfl rfl rfl rfl ?_
  refine rg_pick rfl rfl rfl rfl rfl rfl ?_
  refine rg_nil (aops_nil ?_)
  change Awp _ _ _ _ _
  refine awp_cond rfl (fun hc4 => ?_) (fun hc4 => ?_)
  ·
   (try simp only [nb, ne_eq] at hc4)
   have hb : pkB pw c y = true := by unfold pkB; (simp; omega)
   have hno : pkR g pw c = false := by unfold pkR; rw [List.any_eq_true.2 ⟨y, List.mem_of_getElem? hy, hb⟩]; rfl
   refine awp_seq ?_
   refine awp_region 0 mixed (by kernel_rfl) ?_
   refine rg_nil ?_
   refine aops_store sz4 rfl rfl (by exact .inl rfl) rfl rfl (by decide) rfl ?_
   refine aops_nil ?_
   change Awp _ _ _ _ _
   refine awp_ret ?_
   refine .inr ⟨rfl, x, ⟨rfl, hno⟩, ?_⟩
   exact le_round [] _ hw2 rfl ⟨(by rfl), trivial⟩ rfl
  ·
   (try simp only [nb, ne_eq] at hc4)
   have hb : pkB pw c y = false := by unfold pkB; (simp; omega)
   refine awp_skip ?_
   refine .inl ⟨rfl, x + 1, ⟨rfl, by rw [takeSnoc hy]; exact anySnoc hf hb⟩, ?_⟩
   exact le_round [] _ hw2 rfl ⟨(by rfl), trivial⟩ rfl
 ·
  intro x hI
  obtain ⟨hI2, hf⟩ := hI
  rw [List.take_length] at hf
  have hz : pkR g pw c = decide (0 < pwA pw c) := by unfold pkR; rw [hf]; rfl
  change Awp _ _ _ _ _
  refine awp_seq ?_
  refine awp_region 2 mixed (by kernel_rfl) ?_
  refine rg_q (q_load sz3 rfl rfl) (rg_q (q_gtr rfl rfl) ?_)
  refine rg_nil ?_
  refine aops_store sz4 rfl rfl (by exact .inl rfl) rfl rfl (by decide) rfl ?_
  refine aops_nil ?_
  change Awp _ _ _ _ _
  refine awp_ret ?_
  refine ⟨_, (.cons (.cell1 rfl rfl sz4) .nil), ?_⟩
  rw [hz]; rfl
 ·
  rintro e x (⟨rfl, hX⟩)
  ·
   refine ⟨_, (.cons (.cell1 rfl rfl sz4) .nil), ?_⟩
   rw [hX]; rfl

def choL (p : Int → Bool) (n : Nat) : List Int := (allL n).filter p
theorem choL_succ {p : Int → Bool} {k : Nat} : choL p (k + 1) = choL p k ++ (if p (k : Int) = true then [(k : Int)] else []) := by
  unfold choL
  rw [allL_succ, List.filter_append]
  congr 1
  by_cases h : p (k : Int) = true
  · rw [if_pos h]; simp [h]
  · rw [if_neg h]; simp [h]
theorem choL_len {p : Int → Bool} {k : Nat} : (choL p k).length ≤ k := by
  have := List.length_filter_le p (allL k)
  unfold choL
  rw [allL_len] at this
  exact this
set_option maxRecDepth 100000 in
theorem chosen_p (g : Grd) (pw : List Int) (p : Int → Bool) (fn : FuncId) (cap : List D) (hen : enB Tryz.prog fn = true) (hl : pw.length ≤ 1600) (hp : ∀ n : Nat, n < pw.length → PC Tryz.prog fn (cap ++ [.v (.int .i64 ((n : Int)))]) (.v (.bool (p n)))) : PC Tryz.prog 159 [.agg (fdC g pw), .mfn (.func fn) cap] (.sl 1 ((choL p pw.length).map iC)) := by
 refine pc_of_awpN Tryz.func159 rfl Tryz.ntmps159 (rs := [.tmp 4]) Tryz.results159 (by simp) fun w0 hmine hrnd hpn => ?_
 refine awp_seq ?_
 refine awp_region 2 mixed (by kernel_rfl) ?_
 refine rg_q (q_box rfl (by exact .inr ⟨_, rfl⟩)) ?_
 refine rg_q (q_assign (x := .d (.sl _ _)) rfl) ?_
 refine rg_nil (aops_nil ?_)
 change Awp _ _ _ _ _
 refine awp_seq ?_
 refine awp_region 1 mixed (by kernel_rfl) ?_
 refine rg_q (q_assign_nil) ?_
 refine rg_nil (aops_nil ?_)
 change Awp _ _ _ _ _
 refine Awp.le (le_own (k := 5) (e := 3) (sz := 1) rfl rfl) ?_
 refine awp_seq ?_
 refine awp_seq ?_
 refine awp_region 4 mixed (by kernel_rfl) ?_
 refine rg_q (q_fieldAddr fld193_1 rfl) (rg_q (q_load sz77 rfl rfl) ?_)
 refine rg_q (q_len isl77 rfl (by exact len_map _ _)) ?_
 refine rg_q (q_move (x := .d (.v _)) rfl) ?_
 refine rg_nil (aops_nil ?_)
 change Awp _ _ _ _ _
 refine awp_len (t := 8) rfl (fun hl8 => ?_)
 (try simp only [List.length_map] at hl8)
 refine awp_block ?_
 refine awp_loopH [5, 6, 10, 11, 12, 13, 14, 15, 16, 17, 18, 19, 20] [5] (α := Nat) (fun k => [(10, T.i (k : Int)), (5, .rs 5)]) (fun k => [(5, .row 3 1 ((choL p k).map iC))]) (fun k => k ≤ pw.length) (fun k => pw.length - k) 0 (Nat.zero_le _) ?_ ?_
 · exact le_head (ms := [5]) (by repeat (exact Out.refl _)) ⟨(by rfl), (by rfl), trivial⟩ ⟨(by rfl), trivial⟩ rfl rfl rfl rfl
 ·
  intro k hk
  have hal := choL_len (p := p) (k := k)
  refine awp_seq ?_
  refine awp_region 1 mixed (by kernel_rfl) ?_
  refine rg_q (q_lss rfl rfl) ?_
  refine rg_nil (aops_nil ?_)
  change Awp _ _ _ _ _
  refine awp_seq ?_
  refine awp_cond rfl (fun hc3 => ?_) (fun hc3 => ?_)
  ·
   (try simp only [nb, ne_eq] at hc3)
   have hlt : k < pw.length := by omega
   refine awp_skip ?_
   change Awp _ _ _ _ _
   refine awp_seq ?_
   refine awp_block ?_
   refine awp_seq ?_
   refine awp_region 2 mixed (by kernel_rfl) ?_
   refine rg_q (q_move (x := .d (.v _)) rfl) (rg_q (q_assign (x := .d (.v _)) rfl) ?_)
   refine rg_nil (aops_nil ?_)
   change Awp _ _ _ _ _
   refine awp_seq ?_
   refine awp_region 3 mixed (by kernel_rfl) ?_
   refine rg_q (q_move (x := .d (.mfn _ _)) rfl) (rg_q (q_move (x := .d (.v _)) rfl) ?_)
   refine rg_q (q_callM hen rfl (.cons rfl .nil) ((hp k hlt))) ?_
   refine rg_nil (aops_nil ?_)
   change Awp _ _ _ _ _
   refine awp_cond rfl (fun hc5 => ?_) (fun hc5 => ?_)
   ·
    (try simp only [nb, ne_eq] at hc5)
    have hsk : (choL p (k + 1)).map iC = (choL p k).map iC ++ [[.v (.int .i64 (k : Int))]] := by rw [choL_succ, if_pos hc5, List.map_append]; rfl
    refine awp_region 3 mixed (by kernel_rfl) ?_
    refine rg_q (q_move (x := .rs _) rfl) (rg_q (q_move (x := .d (.v _)) rfl) ?_)
    refine rg_q (q_buildSlice sl77 zr3 rfl rfl (by decide) (.cons rfl (by exact .inl rfl) .nil) ⟨rfl, rfl, trivial⟩ rfl (by decide) rfl) ?_
    refine rg_nil ?_
    refine aops_append sl77 zr3 by3 rfl (by decide) rfl rfl rfl rfl (by (try simp only [List.length_map, List.length_append, List.length_cons, List.length_nil]); omega) (by (try simp only [List.length_map, List.length_append, List.length_cons, List.length_nil]); omega) rfl rfl ?_
    refine aops_q rfl (q_assign (x := .rs _) rfl) ?_
    refine aops_nil ?_
    change Awp _ _ _ _ _
    refine awp_region 2 mixed (by kernel_rfl) ?_
    refine rg_q (q_add rfl rfl (In64.mk (by omega) (by omega))) ?_
    refine rg_q (q_move (x := .d (.v _)) rfl) ?_
    refine rg_nil (aops_nil ?_)
    refine ⟨k + 1, by omega, by omega, ?_⟩
    exact le_head (ms := [5]) (by repeat (first | exact Out.head rfl rfl | (refine Out.put ?_ rfl) | (refine Out.site ?_ rfl) | (refine Out.killS ?_ rfl))) ⟨(by rfl), (by rfl), trivial⟩ ⟨(by ((show Site.row 3 1 _ = Site.row 3 1 _; (rw [hsk]; rfl)))), trivial⟩ rfl rfl rfl rfl
   ·
    (try simp only [nb, ne_eq] at hc5)
    have hsk : (choL p (k + 1)).map iC = (choL p k).map iC := by rw [choL_succ, if_neg (by rw [hc5]; decide), List.append_nil]
    refine awp_skip ?_
    change Awp _ _ _ _ _
    refine awp_region 2 mixed (by kernel_rfl) ?_
    refine rg_q (q_add rfl rfl (In64.mk (by omega) (by omega))) ?_
    refine rg_q (q_move (x := .d (.v _)) rfl) ?_
    refine rg_nil (aops_nil ?_)
    refine ⟨k + 1, by omega, by omega, ?_⟩
    exact le_head (ms := [5]) (by repeat (first | exact Out.head rfl rfl | (refine Out.put ?_ rfl))) ⟨(by rfl), (by rfl), trivial⟩ ⟨(by ((show Site.row 3 1 _ = Site.row 3 1 _; (rw [hsk]; done)))), trivial⟩ rfl rfl rfl rfl
  ·
   (try simp only [nb, ne_eq] at hc3)
   have hkn : k = pw.length := by omega
   subst hkn
   refine awp_exit ?_
   change Awp _ _ _ _ _
   refine awp_seq ?_
   refine awp_region 2 mixed (by kernel_rfl) ?_
   refine rg_q (q_move (x := .rs _) rfl) (rg_q (q_assign (x := .rs _) rfl) ?_)
   refine rg_nil (aops_nil ?_)
   change Awp _ _ _ _ _
   refine awp_ret ?_
   refine ⟨_, (.cons (.tmp (by exact .rs rfl)) .nil), ?_⟩
   rfl

theorem ofD_len (g : Grd) (pw : List Int) : (ofD g pw).length = 6 := by
  unfold ofD
  split
  · rfl
  · split <;> rfl
def peaksR (g : Grd) (pw : List Int) : List Int × Int := if ofE g pw ≠ 0 then ([], ofE g pw) else (choL (pkR g pw) pw.length, 0)
set_option maxRecDepth 100000 in
theorem peaks_p (g : Grd) (pw : List Int) : PC Tryz.prog 83 [.agg (grdC g), .sl 1 (pw.map iC)] (.tup [.sl 1 ((peaksR g pw).1.map iC), .v (.int .i64 ((peaksR g pw).2))]) := by
 refine pc_of_awpN Tryz.func83 rfl Tryz.ntmps83 (rs := [.tmp 4, .tmp 5]) Tryz.results83 (by simp) fun w0 hmine hrnd hpn => ?_
 refine awp_seq ?_
 refine awp_region 3 mixed (by kernel_rfl) ?_
 refine rg_q (q_box rfl (by exact .inr ⟨_, rfl⟩)) ?_
 refine rg_q (q_assign (x := .d (.sl _ _)) rfl) (rg_q (q_assign (x := .d (.v _)) rfl) ?_)
 refine rg_nil (aops_nil ?_)
 change Awp _ _ _ _ _
 refine awp_seq ?_
 refine awp_region 6 mixed (by kernel_rfl) ?_
 refine rg_q (q_loadA (ds := [_, _, _, _, _]) sz35 rfl rfl rfl) ?_
 refine rg_q (q_move (x := .d (.sl _ _)) rfl) ?_
 refine rg_q (q_call en116 (.cons rfl (.cons rfl .nil)) rfl (openField_p _ _)) ?_
 refine rg_q (q_move (x := .d (.tup _)) rfl) (rg_q (q_extract rfl rfl) (rg_q (q_extract rfl rfl) ?_))
 refine rg_nil ?_
 refine aops_allocD zr193 rfl sz193 rfl rfl (by exact .inr ⟨_, rfl⟩) (ofD_len g pw) rfl ?_
 refine aops_q rfl (q_assign (x := .d (.v _)) rfl) ?_
 refine aops_nil ?_
 change Awp _ _ _ _ _
 refine awp_seq ?_
 refine awp_seq ?_
 refine awp_region 2 mixed (by kernel_rfl) ?_
 refine rg_q (q_move (x := .d (.v _)) rfl) (rg_q (q_neq rfl rfl) ?_)
 refine rg_nil (aops_nil ?_)
 change Awp _ _ _ _ _
 refine awp_cond rfl (fun hc2 => ?_) (fun hc2 => ?_)
 ·
  (try simp only [nb, ne_eq] at hc2)
  have hz : peaksR g pw = ([], ofE g pw) := by unfold peaksR; rw [if_pos hc2]
  refine awp_seq ?_
  refine awp_region 3 mixed (by kernel_rfl) ?_
  refine rg_q (q_move (x := .d (.v _)) rfl) (rg_q (q_assign (x := .d (.sl _ _)) rfl) (rg_q (q_assign (x := .d (.v _)) rfl) ?_))
  refine rg_nil (aops_nil ?_)
  change Awp _ _ _ _ _
  refine awp_ret ?_
  refine ⟨_, (.cons (.tmp (by exact .d _)) (.cons (.tmp (by exact .d _)) .nil)), ?_⟩
  rw [hz]; rfl
 ·
  (try simp only [nb, ne_eq] at hc2)
  have h0 : ofE g pw = 0 := by simpa using hc2
  obtain ⟨hfk, hfd⟩ := of_ok h0
  have hci := cells_in hfk.gr
  have hlen := hfk.len
  have hz : peaksR g pw = (choL (pkR g pw) pw.length, 0) := by unfold peaksR; rw [if_neg (fun q => q h0)]
  rw [hfd]
  refine awp_skip ?_
  change Awp _ _ _ _ _
  refine awp_seq ?_
  refine awp_region 6 mixed (by kernel_rfl) ?_
  refine rg_q (q_loadA (ds := [_, _, _, _, _, _]) sz193 rfl rfl rfl) ?_
  refine rg_q (q_loadA (ds := [_, _, _, _, _, _]) sz193 rfl rfl rfl) ?_
  refine rg_q (q_makeMfn (.cons rfl .nil)) ?_
  refine rg_q (q_call en159 (.cons rfl (.cons rfl .nil)) rfl (chosen_p g pw (pkR g pw) 160 [.agg (fdC g pw)] en160 (by omega) (fun n hn => isPeak_p g pw n hfk (by omega) (by omega)))) ?_
  refine rg_q (q_assign (x := .d (.sl _ _)) rfl) (rg_q (q_assign (x := .d (.v _)) rfl) ?_)
  refine rg_nil (aops_nil ?_)
  change Awp _ _ _ _ _
  refine awp_ret ?_
  refine ⟨_, (.cons (.tmp (by exact .d _)) (.cons (.tmp (by exact .d _)) .nil)), ?_⟩
  rw [hz]; rfl
end Go.Proofs.YtphlaicnmmglhaaGreat.Am.M
