/- Contracts over the abstract machine, joined. Conditions: none. -/
import Derived.Test.YtphlaicnmmglhaaGreatJ4
import Derived.Test.YtphlaicnmmglhaaGreatAmE
import Derived.Test.YtphlaicnmmglhaaGreatJ1
set_option linter.unusedVariables false
set_option linter.unusedSimpArgs false
-- mini
namespace Go.Proofs.YtphlaicnmmglhaaGreat.Am.M
open Go

def fvC (v : Int) : List D := [fv v]
def mtS (s : Spc) (p : Int × Int) : List Int := smT s.ar s.pl p (ptsS s) (ptsS s).length
def bigP (s : Spc) (p : Int × Int) : Bool := (mtS s p).any bigB
def mxB (s : Spc) (l : List (Int × Int)) : List Int := l.flatMap (mtS s)
def mxR (s : Spc) : (Int × List Int) × Int := if (ckSpc s).2 ≠ 0 then ((0, []), (ckSpc s).2) else if (prL s.ar.el.length).any (bigP s) = true then ((0, []), 8) else (((s.ar.el.length : Int), mxB s (prL s.ar.el.length)), 0)
def mxC (m : Int × List Int) : List D := [.v (.int .i64 m.1), .sl 1 (m.2.map fvC)]
theorem mtS_len (s : Spc) (p : Int × Int) : (mtS s p).length = 64 := smT_len _
theorem mt_row (s : Spc) (p : Int × Int) : (((mtS s p).map fv).map fun d => [d]) = (mtS s p).map fvC := by rw [List.map_map]; rfl
theorem mxB_len (s : Spc) : ∀ l : List (Int × Int), (mxB s l).length = 64 * l.length
  | [] => rfl
  | p :: l => by
    have ih := mxB_len s l
    unfold mxB at ih ⊢
    rw [List.flatMap_cons, List.length_append, mtS_len, ih, List.length_cons]; omega
theorem mxB_snoc (s : Spc) (l : List (Int × Int)) (p : Int × Int) : mxB s (l ++ [p]) = mxB s l ++ mtS s p := by unfold mxB; rw [List.flatMap_append]; simp
theorem trc_big {s : Spc} {p : Int × Int} (h : bigP s p = true) : trcR s (ptsS s) p = (z64, 8) := by unfold trcR; rw [if_pos (show (smT s.ar s.pl p (ptsS s) (ptsS s).length).any bigB = true from h)]
theorem trc_ok {s : Spc} {p : Int × Int} (h : bigP s p = false) : trcR s (ptsS s) p = ((mtS s p).map fv, 0) := by unfold trcR; rw [if_neg (by rw [show (smT s.ar s.pl p (ptsS s) (ptsS s).length).any bigB = false from h]; decide)]; rfl
theorem any_snoc {s : Spc} {l : List (Int × Int)} {p : Int × Int} (h1 : l.any (bigP s) = false) (h2 : bigP s p = false) : (l ++ [p]).any (bigP s) = false := by rw [List.any_append, h1, List.any_cons, h2]; rfl
theorem take_snoc {α : Type} {l : List α} {k : Nat} {y : α} (hy : l[k]? = some y) : l.take (k + 1) = l.take k ++ [y] := by rw [List.take_succ_eq_append_getElem (List.getElem?_eq_some_iff.1 hy).1, (List.getElem?_eq_some_iff.1 hy).2]
theorem trR_len (s : Spc) (p : Int × Int) : (trcR s (ptsS s) p).1.length = 64 := trcR_len s (ptsS s) p
set_option maxRecDepth 100000 in
theorem matrixBad_p (s : Spc) (h0 : (ckSpc s).2 ≠ 0) : PC Tryz.prog 78 [.agg (spcC s)] (.tup [.agg (mxC (mxR s).1), .v (.int .i64 ((mxR s).2))]) := by
 have hos : osR s = (zOp, (ckSpc s).2) := by unfold osR; rw [if_pos h0]
 have hz : mxR s = ((0, []), (ckSpc s).2) := by unfold mxR; rw [if_pos h0]
 refine pc_of_awpN Tryz.func78 rfl Tryz.ntmps78 (rs := [.cell 2 31, .cell 3 40]) Tryz.results78 (by simp) fun w0 hmine hrnd hpn => ?_
 refine awp_seq ?_
 refine awp_region 1 mixed (by kernel_rfl) ?_
 refine rg_q (q_box rfl (by exact .inr ⟨_, rfl⟩)) ?_
 refine rg_nil ?_
 refine aops_alloc zr31 rfl rfl rfl ?_
 refine aops_alloc zr40 rfl rfl rfl ?_
 refine aops_nil ?_
 change Awp _ _ _ _ _
 refine awp_seq ?_
 refine awp_region 5 mixed (by kernel_rfl) ?_
 refine rg_q (q_loadA sz130 rfl rfl rfl) ?_
 refine rg_q (q_call en146 (.cons rfl .nil) rfl ((by have h := openSpecimen_p s; rw [hos] at h; exact h))) ?_
 refine rg_q (q_move (x := .d (.tup _)) rfl) (rg_q (q_extract rfl rfl) (rg_q (q_extract rfl rfl) ?_))
 refine rg_nil ?_
 refine aops_alloc zr245 rfl rfl rfl ?_
 refine aops_store sz245 rfl rfl (by exact .inr ⟨_, rfl⟩) rfl rfl (by decide) rfl ?_
 refine aops_q rfl (q_a rfl) ?_
 refine aops_nil ?_
 change Awp _ _ _ _ _
 refine awp_seq ?_
 refine awp_seq ?_
 refine awp_region 2 mixed (by kernel_rfl) ?_
 refine rg_q (q_m rfl) (rg_q (q_neq rfl rfl) ?_)
 refine rn ?_
 change Awp _ _ _ _ _
 refine awp_cond rfl (fun hc2 => ?_) (fun hc2 => ?_)
 ·
  (try simp only [nb, ne_eq] at hc2)
  refine awp_seq ?_
  refine awp_region 2 mixed (by kernel_rfl) ?_
  refine rg_q (q_build (cs := [_, _]) pl31 zr31 rfl .nil trivial rfl) ?_
  refine rg_q (q_m rfl) ?_
  refine rg_nil ?_
  refine aops_store sz31 rfl rfl (by exact .inr ⟨_, rfl⟩) rfl rfl (by decide) rfl ?_
  refine aops_store sz40 rfl rfl (by exact .inl rfl) rfl rfl (by decide) rfl ?_
  refine aops_nil ?_
  change Awp _ _ _ _ _
  refine Awp.le (le_upB 2 (mxC (0, [])) rfl (.cons (.same _) (.cons (.nil 1) .nil))) ?_
  refine awp_ret ?_
  refine ⟨_, (.cons (.cellA rfl rfl sz31 rfl) (.cons (.cell1 rfl rfl sz40) .nil)), ?_⟩
  rw [hz]; rfl
 ·
  exact absurd (Decidable.not_not.1 (of_decide_eq_false hc2)) h0
set_option maxRecDepth 100000 in
theorem matrixOk_p (s : Spc) (h0 : (ckSpc s).2 = 0) : PC Tryz.prog 78 [.agg (spcC s)] (.tup [.agg (mxC (mxR s).1), .v (.int .i64 ((mxR s).2))]) := by
 have hos : osR s = (opnS s (ptsS s), 0) := by unfold osR; rw [if_neg (fun q => q h0)]
 have hsp := spc_ok h0
 have hok := hsp.ar
 have hn2 := hok.n2
 have hp1 := hsp.p1
 have hpl := prL_len hn2
 obtain ⟨hP1, hP2⟩ := ptsS_in hsp
 refine pc_of_awpN Tryz.func78 rfl Tryz.ntmps78 (rs := [.cell 2 31, .cell 3 40]) Tryz.results78 (by simp) fun w0 hmine hrnd hpn => ?_
 refine awp_seq ?_
 refine awp_region 1 mixed (by kernel_rfl) ?_
 refine rg_q (q_box rfl (by exact .inr ⟨_, rfl⟩)) ?_
 refine rg_nil ?_
 refine aops_alloc zr31 rfl rfl rfl ?_
 refine aops_alloc zr40 rfl rfl rfl ?_
 refine aops_nil ?_
 change Awp _ _ _ _ _
 refine awp_seq ?_
 refine awp_region 5 mixed (by kernel_rfl) ?_
 refine rg_q (q_loadA sz130 rfl rfl rfl) ?_
 refine rg_q (q_call en146 (.cons rfl .nil) rfl ((by have h := openSpecimen_p s; rw [hos] at h; exact h))) ?_
 refine rg_q (q_move (x := .d (.tup _)) rfl) (rg_q (q_extract rfl rfl) (rg_q (q_extract rfl rfl) ?_))
 refine rg_nil ?_
 refine aops_alloc zr245 rfl rfl rfl ?_
 refine aops_store sz245 rfl rfl (by exact .inr ⟨_, rfl⟩) rfl rfl (by decide) rfl ?_
 refine aops_q rfl (q_a rfl) ?_
 refine aops_nil ?_
 change Awp _ _ _ _ _
 refine awp_seq ?_
 refine awp_seq ?_
 refine awp_region 2 mixed (by kernel_rfl) ?_
 refine rg_q (q_m rfl) (rg_q (q_neq rfl rfl) ?_)
 refine rn ?_
 change Awp _ _ _ _ _
 refine awp_cond rfl (fun hc2 => ?_) (fun hc2 => ?_)
 ·
  exact absurd rfl (of_decide_eq_true hc2)
 ·
  (try simp only [nb, ne_eq] at hc2)
  refine awp_skip ?_
  change Awp _ _ _ _ _
  refine awp_seq ?_
  refine awp_region 6 mixed (by kernel_rfl) ?_
  refine rg_q (q_fieldAddr_ref fld245_0 rfl) (rg_q (q_fieldAddr_ref fld242_0 rfl) (rg_q (q_fieldAddr_ref fld28_0 rfl) (rg_q (q_load_ref sz22 rfl rfl rfl) ?_)))
  refine rg_q (q_len isl22 rfl (by exact len_map _ _)) ?_
  refine rg_q (q_build (cs := [_, _]) pl31 zr31 rfl (.cons rfl (by exact .inl rfl) .nil) ⟨⟨rfl, by decide⟩, trivial⟩ rfl) ?_
  refine rg_nil ?_
  refine aops_alloc zr31 rfl rfl rfl ?_
  refine aops_store sz31 rfl rfl (by exact .inr ⟨_, rfl⟩) rfl rfl (by decide) rfl ?_
  refine aops_nil ?_
  change Awp _ _ _ _ _
  refine awp_len (t := 22) rfl (fun hl22 => ?_)
  (try simp only [List.length_map] at hl22)
  refine awp_seq ?_
  refine awp_seq ?_
  refine awp_region 3 mixed (by kernel_rfl) ?_
  refine rg_q (q_fieldAddr_ref fld245_0 rfl) ?_
  refine rg_q (q_load_refA (ds := [_, _, _, _, _, _, _, _, _, _, _]) sz242 rfl rfl rfl rfl) ?_
  refine rg_q (q_makeMfn (.cons rfl .nil)) ?_
  refine rn ?_
  change Awp _ _ _ _ _
  refine awp_block ?_
  refine Awp.le (le_upB 2 (mxC (0, [])) rfl (.cons (.same _) (.cons (.nil 1) .nil))) ?_
  refine Awp.le (le_freeze 4 4 0 (cs := (opnS s (ptsS s))) rfl rfl rfl rfl hmine) ?_
  refine Awp.le (le_ownB 6 42 1 117 1 rfl rfl rfl) ?_
  refine awp_rangeC (α := Int × Int) (β := Nat × Int) (n := 45) (enc := encP) (items := prL s.ar.el.length) 1000 [(2, .ref 2 0), (3, .ref 3 0), (4, .d (.pt (opnS s (ptsS s)) 0)), (6, .ref 6 0), (27, .d (.mfn (.func 147) [.agg (arrC s.ar)]))] (fun x => [(2, .box (mxC (0, []))), (3, .box [.v (.int .i64 (x.2))]), (6, .tbox [.d (.v (.int .i64 ((s.ar.el.length : Int)))), .rs 42]), (42, .row 117 1 ((mxB s ((prL s.ar.el.length).take x.1)).map fvC))]) (fun k x => x.1 = k ∧ k ≤ (prL s.ar.el.length).length ∧ x.2 = 0 ∧ ((prL s.ar.el.length).take k).any (bigP s) = false) (fun e x => e = Exit.ret ∧ x.2 = 8 ∧ (prL s.ar.el.length).any (bigP s) = true) (0, 0) hrnd ?_ (.inl ⟨rfl, rfl⟩) en147 (pairs_i s.ar) rfl (fun _ => rfl) rfl (fun _ => by repeat first | exact trivial | refine ⟨by exact D.Flat.aggF (by repeat first | exact trivial | refine ⟨.v _, ?_⟩), ?_⟩) (fun _ => rfl) ⟨rfl, Nat.zero_le _, rfl, rfl⟩ (fun h => by cases h) ?_ ?_ ?_
  · exact le_cst (fun k => k) _ _ rfl ⟨(by rfl), (by rfl), (by rfl), (by rfl), (by rfl), trivial⟩ ⟨(by rfl), (by rfl), (by rfl), (by rfl), trivial⟩ rfl (fun k b h => by rw [hpn k] at h; cases h)
  ·
   intro w1 hw1 k x y hI hy
   obtain ⟨h1, hk, hv0, hf⟩ := hI
   obtain ⟨x, e0⟩ := x
   simp only at h1 hv0
   subst h1 hv0
   have hpy := prL_in (List.mem_of_getElem? hy)
   have hxl : x < (prL s.ar.el.length).length := (List.getElem?_eq_some_iff.1 hy).1
   have hml := mxB_len s ((prL s.ar.el.length).take x)
   have hm64 := mtS_len s y
   have htl : ((prL s.ar.el.length).take x).length ≤ 256 := by rw [List.length_take]; omega
   have hs1 : (mxB s ((prL s.ar.el.length).take x)).map fvC ++ (mtS s y).map fvC = (mxB s ((prL s.ar.el.length).take (x + 1))).map fvC := by rw [take_snoc hy, mxB_snoc, List.map_append]
   refine awp_region 0 mixed (by kernel_rfl) ?_
   refine rg_nil ?_
   refine aops_alloc zr63 rfl rfl rfl ?_
   refine aops_store sz63 rfl rfl (by exact .inr ⟨_, rfl⟩) rfl rfl (by decide) rfl ?_
   refine aops_nil ?_
   refine ⟨rfl, fun w2 hw2 => ?_⟩
   refine awp_block ?_
   refine awp_seq ?_
   refine awp_region 6 mixed (by kernel_rfl) ?_
   refine rg_q (q_loadA sz245 rfl rfl rfl) ?_
   refine rg_q (q_load_refA (ds := [_, _]) sz63 rfl rfl rfl rfl) ?_
   refine rg_q (q_call en148 (.cons rfl (.cons rfl .nil)) rfl (traceOf_p s (ptsS s) y hok hpy hsp.p1 hsp.p2 hP1 hP2)) ?_
   refine rg_q (q_move (x := .d (.tup _)) rfl) (rg_q (q_extract rfl rfl) (rg_q (q_extract rfl rfl) ?_))
   refine rg_nil ?_
   refine aops_allocD zr236 rfl sz236 rfl rfl (by exact .inr ⟨_, rfl⟩) (trR_len s y) rfl ?_
   refine aops_q rfl (q_a rfl) ?_
   refine aops_nil ?_
   change Awp _ _ _ _ _
   refine awp_seq ?_
   refine awp_seq ?_
   refine awp_region 2 mixed (by kernel_rfl) ?_
   refine rg_q (q_m rfl) (rg_q (q_neq rfl rfl) ?_)
   refine rn ?_
   change Awp _ _ _ _ _
   refine awp_cond rfl (fun hc8 => ?_) (fun hc8 => ?_)
   ·
    (try simp only [nb, ne_eq] at hc8)
    have hb : bigP s y = true := by
     cases q : bigP s y with
     | true => rfl
     | false => rw [trc_ok q] at hc8; exact absurd rfl hc8
    rw [trc_big hb]
    refine awp_seq ?_
    refine awp_region 2 mixed (by kernel_rfl) ?_
    refine rg_q (q_build (cs := [_, _]) pl31 zr31 rfl .nil trivial rfl) ?_
    refine rg_q (q_m rfl) ?_
    refine rg_nil ?_
    refine aops_store sz31 rfl rfl (by exact .inr ⟨_, rfl⟩) rfl rfl (by decide) rfl ?_
    refine aops_store sz40 rfl rfl (by exact .inl rfl) rfl rfl (by simp; done) rfl ?_
    refine aops_nil ?_
    change Awp _ _ _ _ _
    refine Awp.le (le_upB 1002 (mxC (0, [])) rfl (.cons (.same _) (.cons (.nil 1) .nil))) ?_
    refine awp_ret ?_
    refine .inr ⟨rfl, (x, 8), ⟨rfl, rfl, List.any_eq_true.2 ⟨y, List.mem_of_getElem? hy, hb⟩⟩, ?_⟩
    exact le_round [] _ hw2 rfl ⟨(by rfl), (by rfl), (by rfl), (by rfl), trivial⟩ rfl
   ·
    (try simp only [nb, ne_eq] at hc8)
    have hb : bigP s y = false := by
     cases q : bigP s y with
     | false => rfl
     | true => rw [trc_big q] at hc8; cases hc8
    rw [trc_ok hb]
    refine awp_skip ?_
    change Awp _ _ _ _ _
    refine awp_early (i := 4) mixed rfl (by kernel_rfl) fld31_1 rfl ?_
    refine any_regionC 6 [0, 1, 3, 5] [1042, 1006] (by kernel_rfl) ?_
    refine rgc_c rfl rfl (c_q (q_fieldAddr_ref fld31_1 rfl)) ?_
    refine rgc_c rfl rfl (c_q (q_load_tb (x := .rs _) sz29 rfl rfl rfl)) ?_
    refine rgc_q rfl (q_sliceP (es := (mtS s y).map fvC) ar236 rfl (by show ((mtS s y).map fv).length = 64; rw [List.length_map, mtS_len]) (by decide) (by decide) (by show (((mtS s y).map fv).map fun d => [d]) = _; exact mt_row s y)) rfl ?_
    refine rgc_c rfl rfl (c_append (es' := (mxB s ((prL s.ar.el.length).take (x + 1))).map fvC) sl29 zr117 by117 rfl (by decide) rfl rfl rfl rfl (by (try simp only [List.length_map, List.length_append, List.length_cons, List.length_nil]); omega) (by (try simp only [List.length_map, List.length_append, List.length_cons, List.length_nil]); omega) hs1) ?_
    refine rgc_q rfl (q_move (x := .d (.v (.bool true))) rfl) rfl ?_
    refine rgc_c rfl rfl ((c_storeR sz29 rfl rfl rfl (by simp) rfl)) ?_
    refine rgc_nil ?_
    refine aops_nil ?_
    refine ⟨rfl, ?_⟩
    refine .inl ⟨rfl, (x + 1, 0), ⟨rfl, hxl, rfl, by rw [take_snoc hy]; exact any_snoc hf hb⟩, ?_⟩
    exact le_round [] _ hw2 rfl ⟨(by rfl), (by rfl), (by rfl), (by rfl), trivial⟩ rfl
  ·
   intro x hI
   obtain ⟨h1, hk, hv0, hf⟩ := hI
   obtain ⟨x, e0⟩ := x
   simp only at h1 hv0
   subst h1 hv0
   rw [List.take_length] at *
   change Awp _ _ _ _ _
   refine awp_seq ?_
   refine Awp.le (le_freezeTB 6 42 1 rfl rfl rfl rfl hmine) ?_
   refine Awp.le (le_boxT 6 (mxC ((s.ar.el.length : Int), mxB s (prL s.ar.el.length))) rfl rfl (by intro j d h; match j, h with | 0, h => cases h; rfl | 1, h => cases h; rfl)) ?_
   refine awp_region 1 mixed (by kernel_rfl) ?_
   refine rg_q (q_load_refA (ds := [_, _]) sz31 rfl rfl rfl rfl) ?_
   refine rg_nil ?_
   refine aops_store sz31 rfl rfl (by exact .inr ⟨_, rfl⟩) rfl rfl (by decide) rfl ?_
   refine aops_store sz40 rfl rfl (by exact .inl rfl) rfl rfl (by simp; done) rfl ?_
   refine aops_nil ?_
   change Awp _ _ _ _ _
   refine awp_ret ?_
   refine ⟨_, (.cons (.cellA rfl rfl sz31 rfl) (.cons (.cell1 rfl rfl sz40) .nil)), ?_⟩
   have hz : mxR s = (((s.ar.el.length : Int), mxB s (prL s.ar.el.length)), 0) := by unfold mxR; rw [if_neg (fun q => q h0), if_neg (by rw [hf]; decide)]
   rw [hz]; rfl
  ·
   rintro e x (⟨rfl, hX⟩)
   ·
    refine ⟨_, (.cons (.cellA rfl rfl sz31 rfl) (.cons (.cell1 rfl rfl sz40) .nil)), ?_⟩
    have hz : mxR s = ((0, []), 8) := by unfold mxR; rw [if_neg (fun q => q h0), if_pos hX.2]
    rw [hz, hX.1]; rfl
end Go.Proofs.YtphlaicnmmglhaaGreat.Am.M
namespace Go.Proofs.YtphlaicnmmglhaaGreat.Am.M
open Go

theorem big_in {v : Int} (h : bigB v ≠ true) : -2047 ≤ v ∧ v ≤ 2047 := by
  unfold bigB inR at h
  simp at h; omega
theorem mx_at5 (s : Spc) {n f r : Nat} (hf : f < n) (hr : r < n) {i : Nat} (hi : i < 64) : (mxB s (prL n))[(f * n + r) * 64 + i]? = (mtS s ((f : Int), (r : Int)))[i]? := by
  obtain ⟨t, ht⟩ := pr_pre (n := n) (i := f) (j := r + 1) hf hr
  have e : mxB s (prL n) = mxB s (prF n f ++ prR f r) ++ (mtS s ((f : Int), (r : Int)) ++ mxB s t) := by
    rw [← ht, prK_succ]; unfold mxB; simp only [List.flatMap_append, List.append_assoc]; simp
  have hl : (mxB s (prF n f ++ prR f r)).length = (f * n + r) * 64 := by
    rw [mxB_len, List.length_append, prF_len]; unfold prR; rw [List.length_map, List.length_range, Nat.mul_comm]
  rw [e, ← hl, List.getElem?_append_right (by omega), Nat.add_sub_cancel_left, List.getElem?_append_left (by rw [mtS_len]; exact hi)]
theorem mx_in5 {s : Spc} {n : Nat} (h : (prL n).any (bigP s) = false) : ∀ v ∈ mxB s (prL n), -2047 ≤ v ∧ v ≤ 2047 := by
  intro v hv
  obtain ⟨p, hp, hv⟩ := List.mem_flatMap.1 hv
  have h1 := List.any_eq_false.1 h p hp
  exact big_in fun q => h1 (List.any_eq_true.2 ⟨v, hv, q⟩)
theorem vI_near {v : Int} (h1 : -2047 ≤ v) (h2 : v ≤ 2047) : vI (FloatKind.f32.nearest v) = v := (whl_fn h1 h2).v
theorem chK_le5 (l : List Nat) (m : Nat) : (chK l m).length ≤ 64 := by
  unfold chK; rw [List.length_drop, List.length_take]; omega
def taS (s : Spc) (g : Grd) : Tsk := ⟨s.ar, (s.ar.el.length : Int), (mxB s (prL s.ar.el.length)).map FloatKind.f32.nearest, g⟩
theorem ta_row (s : Spc) : (mxB s (prL s.ar.el.length)).map fvC = ((mxB s (prL s.ar.el.length)).map FloatKind.f32.nearest).map fC := by rw [List.map_map]; rfl
theorem ta_smp {s : Spc} {g : Grd} (hb : (prL s.ar.el.length).any (bigP s) = false) {y : Int × Int} (hp : (0 ≤ y.1 ∧ y.1 < s.ar.el.length) ∧ 0 ≤ y.2 ∧ y.2 < s.ar.el.length) : smpS (taS s g) y = mtS s y := by
  obtain ⟨a, b⟩ := y
  obtain ⟨⟨h1, h2⟩, h3, h4⟩ := hp
  simp only at h1 h2 h3 h4
  obtain ⟨u, rfl⟩ := Int.eq_ofNat_of_zero_le h1
  obtain ⟨r, rfl⟩ := Int.eq_ofNat_of_zero_le h3
  obtain ⟨n, hn⟩ : ∃ n, n = s.ar.el.length := ⟨_, rfl⟩
  have e0 : ((u : Int) * (s.ar.el.length : Int) + (r : Int)).toNat = u * s.ar.el.length + r := by
    rw [show ((u : Int) * (s.ar.el.length : Int) + (r : Int)) = ((u * s.ar.el.length + r : Nat) : Int) by rw [Int.natCast_add, Int.natCast_mul]]
    exact Int.toNat_natCast _
  apply List.ext_getElem?
  intro i
  show ((chK ((mxB s (prL s.ar.el.length)).map FloatKind.f32.nearest) ((u : Int) * (s.ar.el.length : Int) + (r : Int)).toNat).map vI)[i]? = _
  rw [e0, List.getElem?_map]
  by_cases hi : i < 64
  · have e1 : 64 * (u * s.ar.el.length + r) + i = (u * s.ar.el.length + r) * 64 + i := by omega
    have hx := mx_at5 s (n := s.ar.el.length) (f := u) (r := r) (by omega) (by omega) hi
    obtain ⟨v, hv⟩ : ∃ v, (mtS s ((u : Int), (r : Int)))[i]? = some v := ⟨_, List.getElem?_eq_getElem (by rw [mtS_len]; exact hi)⟩
    rw [hv] at hx
    obtain ⟨v1, v2⟩ := mx_in5 hb v (List.mem_of_getElem? hx)
    rw [chK_at hi, List.getElem?_map, e1, hx, hv]
    show some (vI (FloatKind.f32.nearest v)) = some v
    rw [vI_near v1 v2]
  · have h1 := chK_le5 ((mxB s (prL s.ar.el.length)).map FloatKind.f32.nearest) (u * s.ar.el.length + r)
    rw [List.getElem?_eq_none (by omega), List.getElem?_eq_none (by rw [mtS_len]; omega)]; rfl
end Go.Proofs.YtphlaicnmmglhaaGreat.Am.M
-- mini
namespace Go.Proofs.YtphlaicnmmglhaaGreat.Am.M
open Go

theorem matrix5_p (s : Spc) : PC Tryz.prog 78 [.agg (spcC s)] (.tup [.agg (mxC (mxR s).1), .v (.int .i64 ((mxR s).2))]) := by
  by_cases h : (ckSpc s).2 = 0
  · exact matrixOk_p s h
  · exact matrixBad_p s h
theorem prL_len5 {n : Nat} (h : n ≤ 3) : (prL n).length ≤ 9 := by
  unfold prL; rw [prF_len]
  have := Nat.mul_le_mul h h
  omega
theorem sli_few5 {s : Spc} (h : sliB s = true) (h2 : s.ar.el.length ≤ 16) : s.ar.el.length ≤ 3 := by
  simp [sliB, fewB] at h
  omega
theorem ta_len5 {s : Spc} {g : Grd} (h : s.ar.el.length ≤ 3) : (taS s g).bf.length ≤ 10000 := by
  show ((mxB s (prL s.ar.el.length)).map FloatKind.f32.nearest).length ≤ 10000
  rw [List.length_map, mxB_len]
  have := prL_len5 h
  omega
theorem img_ok5 {t : Tsk} (h : (ckT t).2 = 0) : imgR t = (rimF t (evL t) (clN t), 0) := by
  unfold imgR
  rw [if_neg (fun q => q h), rim_ev]
theorem mx_box5 (s : Spc) (g : Grd) : mxC ((s.ar.el.length : Int), mxB s (prL s.ar.el.length)) = mtxC (taS s g).ne (taS s g).bf := by
  unfold mxC mtxC
  simp only
  rw [ta_row]; rfl
def bsB (s : Spc) (g : Grd) : Bool := sliB s && decide ((ckSpc s).2 = 0) && inR 1 g.co 12 && inR 1 g.ro 12 && decide (g.co * g.ro ≤ 12)
set_option maxRecDepth 100000 in
theorem benchSmall_p (s : Spc) (g : Grd) : PC Tryz.prog 73 [.agg (spcC s), .agg (grdC g)] (.v (.bool (bsB s g))) := by
 refine pc_of_awp Tryz.func73 rfl Tryz.ntmps73 (rs := [.tmp 4]) Tryz.results73 (by simp) fun w0 => ?_
 refine awp_seq ?_
 refine awp_region 3 mixed (by kernel_rfl) ?_
 refine rg_q (q_box rfl (by exact .inr ⟨_, rfl⟩)) ?_
 refine rg_q (q_box rfl (by exact .inr ⟨_, rfl⟩)) ?_
 refine rg_q (q_a rfl) ?_
 refine rs (awp_region 26 mixed (by kernel_rfl) ?_)
 refine rg_q (q_loadA sz130 rfl rfl rfl) ?_
 refine rg_q (q_call en144 (.cons rfl .nil) rfl (slight_p s)) ?_
 refine rg_q (q_m rfl) ?_
 refine rg_g rfl rfl (fun hG => (q_loadA sz130 rfl rfl rfl)) ?_
 refine rg_g rfl rfl (fun hG => (q_call en77 (.cons rfl .nil) rfl (specimenErr_p s))) ?_
 refine rg_g rfl rfl (fun hG => (q_eql rfl rfl)) ?_
 refine rg_pick rfl rfl rfl rfl rfl rfl ?_
 refine rg_q (q_m rfl) ?_
 refine rg_g rfl rfl (fun hG => (q_fieldAddr fld35_1 rfl)) ?_
 refine rg_g rfl rfl (fun hG => (q_load sz3 rfl rfl)) ?_
 refine rg_g rfl rfl (fun hG => (q_call en31 (.cons rfl (.cons rfl (.cons rfl .nil))) rfl (within4_p _ _ _))) ?_
 refine rg_pick rfl rfl rfl rfl rfl rfl ?_
 refine rg_q (q_m rfl) ?_
 refine rg_g rfl rfl (fun hG => (q_fieldAddr fld35_2 rfl)) ?_
 refine rg_g rfl rfl (fun hG => (q_load sz3 rfl rfl)) ?_
 refine rg_g rfl rfl (fun hG => (q_call en31 (.cons rfl (.cons rfl (.cons rfl .nil))) rfl (within4_p _ _ _))) ?_
 refine rg_pick rfl rfl rfl rfl rfl rfl ?_
 refine rg_q (q_m rfl) ?_
 refine rg_g rfl rfl (fun hG => (q_fieldAddr fld35_1 rfl)) ?_
 refine rg_g rfl rfl (fun hG => (q_load sz3 rfl rfl)) ?_
 refine rg_g rfl rfl (fun hG => (q_fieldAddr fld35_2 rfl)) ?_
 refine rg_g rfl rfl (fun hG => (q_load sz3 rfl rfl)) ?_
 refine rg_g rfl rfl (fun hG => (q_mul rfl rfl (by have hg0 := T.bool_inj (a := _) hG.1; (try simp only [nb, ne_eq] at hg0); obtain ⟨⟨⟨_, _⟩, q1⟩, q2⟩ := hg0; have q1 := inR_iff.1 q1; have q2 := inR_iff.1 q2; have := mulb (a := g.co) (b := g.ro) (A := 12) (B := 12) (by omega) (by omega) (by omega) (by omega); exact In64.mk (by omega) (by omega)))) ?_
 refine rg_g rfl rfl (fun hG => (q_leq rfl rfl)) ?_
 refine rg_pick rfl rfl rfl rfl rfl rfl ?_
 refine rg_q (q_a rfl) ?_
 refine rn ?_
 change Awp _ _ _ _ _
 refine awp_ret ?_
 refine ⟨_, (.cons (.tmp (by exact .d _)) .nil), ?_⟩
 simp only [bif_and, bif_or, bsB]; rfl
end Go.Proofs.YtphlaicnmmglhaaGreat.Am.M
-- mini
namespace Go.Proofs.YtphlaicnmmglhaaGreat.Am.M
open Go

def tmR (l : List Nat) (i : Nat) : List (List D) := (chF l i).map fun b => (b.map vI).map iv
def tmC (ne : Int) (l : List Nat) (m : Nat) : List D := [.v (.int .i64 ne), .sl 64 (tmR l m)]
theorem tmR_succ (l : List Nat) (i : Nat) : tmR l (i + 1) = tmR l i ++ [((chK l i).map vI).map iv] := by unfold tmR; rw [chF_succ, List.map_append]; rfl
theorem tmR_len (l : List Nat) (i : Nat) : (tmR l i).length = i := by unfold tmR chF; rw [List.length_map, List.length_map, List.length_range]
theorem tmR_flat (l : List Nat) (i : Nat) : ∀ x ∈ tmR l i, ∀ d ∈ x, D.Flat d := by
  intro x hx d hd
  unfold tmR at hx
  obtain ⟨b, _, rfl⟩ := List.mem_map.1 hx
  obtain ⟨v, _, rfl⟩ := List.mem_map.1 hd
  exact .v _
set_option maxRecDepth 100000 in
theorem tmatrixErr_p (ne : Int) (l : List Nat) (h1 : 1 ≤ ne) (h2 : ne ≤ 16) (hl : (l.length : Int) = ne * ne * 64) (hb : WhlL l) : PC Tryz.prog 231 [.agg [.v (.int .i64 (ne)), .sl 1 (l.map fC)]] (.v (.int .i64 (0))) := by
 refine pc_of_awp Tryz.func231 rfl Tryz.ntmps231 (rs := [.tmp 2]) Tryz.results231 (by simp) fun w0 => ?_
 refine awp_seq ?_
 refine awp_region 2 mixed (by kernel_rfl) ?_
 refine rg_q (q_box rfl (by exact .inr ⟨_, rfl⟩)) ?_
 refine rg_q (q_a rfl) ?_
 refine rs (awp_region 7 mixed (by kernel_rfl) ?_)
 refine rg_q (q_loadA (ds := [_, _]) sz31 rfl rfl rfl) ?_
 refine rg_q (q_call en86 (.cons rfl .nil) rfl (checkMatrix_p ne l h1 h2 hl hb)) ?_
 refine rg_q (q_move (x := .d (.tup _)) rfl) (rg_q (q_extract rfl rfl) (rg_q (q_extract rfl rfl) (rg_q (q_a rfl) (rg_q (q_a rfl) ?_))))
 refine rs (awp_region 2 mixed (by kernel_rfl) ?_)
 refine rg_q (q_m rfl) (rg_q (q_a rfl) ?_)
 refine rn ?_
 change Awp _ _ _ _ _
 refine awp_ret ?_
 refine ⟨_, (.cons (.tmp (by exact .d _)) .nil), ?_⟩
 rfl
set_option maxRecDepth 100000 in
theorem tsize_p (n : Int) (h1 : -1000000 ≤ n) (h2 : n ≤ 1000000) : PC Tryz.prog 158 [.v (.int .i64 (n))] (.v (.int .i64 ((n.natAbs : Int)))) := by
 refine pc_of_awp Tryz.func158 rfl Tryz.ntmps158 (rs := [.tmp 2]) Tryz.results158 (by simp) fun w0 => ?_
 refine awp_seq ?_
 refine awp_region 1 mixed (by kernel_rfl) ?_
 refine rg_q (q_a rfl) ?_
 refine rs (awp_region 5 mixed (by kernel_rfl) ?_)
 refine rg_q (q_m rfl) (rg_q (q_m rfl) ?_)
 refine rg_q (q_neg rfl (In64.mk (by omega) (by omega))) ?_
 refine rg_q (q_max rfl rfl) ?_
 refine rg_q (q_a rfl) ?_
 refine rn ?_
 change Awp _ _ _ _ _
 refine awp_ret ?_
 refine ⟨_, (.cons (.tmp (by exact .d _)) .nil), ?_⟩
 (simp [retD]; omega)
set_option maxRecDepth 100000 in
theorem topen_p (ne : Int) (l : List Nat) (h1 : 1 ≤ ne) (h2 : ne ≤ 16) (hl : (l.length : Int) = ne * ne * 64) (hb : WhlL l) : PC Tryz.prog 154 [.agg [.v (.int .i64 (ne)), .sl 1 (l.map fC)]] (.tup [.pt (tmC ne l (ne * ne).toNat) 0, .v (.int .i64 (0))]) := by
  have hm := mulb (a := ne) (b := ne) (A := 16) (B := 16) (by omega) (by omega) (by omega) (by omega)
  have hp := Int.mul_nonneg (show 0 ≤ ne by omega) (show 0 ≤ ne by omega)
  obtain ⟨m, hmm⟩ : ∃ m, m = (ne * ne).toNat := ⟨_, rfl⟩
  rw [← hmm]
  have hb1 : l.length = 64 * m := by omega
  have hb2 : m ≤ 256 := by omega
  refine pc_of_awpN Tryz.func154 rfl Tryz.ntmps154 (rs := [.tmp 2, .tmp 3]) Tryz.results154 (by simp) fun w0 hmine hrnd hpn => ?_
  refine awp_seq ?_
  refine awp_region 3 mixed (by kernel_rfl) ?_
  refine rg_q (q_box rfl (by exact .inr ⟨_, rfl⟩)) ?_
  refine rg_q (q_a rfl) (rg_q (q_a rfl) ?_)
  refine rn ?_
  change Awp _ _ _ _ _
  refine awp_seq ?_
  refine awp_seq ?_
  refine awp_region 3 mixed (by kernel_rfl) ?_
  refine rg_q (q_loadA (ds := [_, _]) sz31 rfl rfl rfl) ?_
  refine rg_q (q_call en231 (.cons rfl .nil) rfl (tmatrixErr_p ne l h1 h2 hl hb)) ?_
  refine rg_q (q_a rfl) ?_
  refine rs (awp_region 2 mixed (by kernel_rfl) ?_)
  refine rg_q (q_m rfl) (rg_q (q_neq rfl rfl) ?_)
  refine rn ?_
  change Awp _ _ _ _ _
  refine awp_cond rfl (fun hc2 => ?_) (fun hc2 => ?_)
  ·
    simp at hc2
  ·
    (try simp only [nb, ne_eq] at hc2)
    refine awp_skip ?_
    change Awp _ _ _ _ _
    refine awp_seq ?_
    refine awp_region 3 mixed (by kernel_rfl) ?_
    refine rg_q (q_fieldAddr fld31_0 rfl) (rg_q (q_load sz3 rfl rfl) ?_)
    refine rg_q (q_build (cs := [_, _]) pl330 zr330 rfl (.cons rfl (by exact .inl rfl) .nil) ⟨⟨rfl, by decide⟩, trivial⟩ rfl) ?_
    refine rg_nil ?_
    refine aops_box rfl (by exact .inr ⟨_, rfl⟩) rfl rfl rfl ?_
    refine aops_alloc zr256 rfl rfl rfl ?_
    refine aops_le (le_tbox (k := 5) (ts := [_]) rfl rfl) ?_
    refine aops_storeT (z := .ref _ _) sz256 rfl rfl rfl rfl (by decide) rfl ?_
    refine aops_nil ?_
    change Awp _ _ _ _ _
    refine awp_seq ?_
    refine awp_seq ?_
    refine awp_region 3 mixed (by kernel_rfl) ?_
    refine rg_q (q_fieldAddr fld31_1 rfl) (rg_q (q_load sz29 rfl rfl) ?_)
    refine rg_q (q_call en141 (.cons rfl (.cons rfl .nil)) rfl (chunk_p l)) ?_
    refine rn ?_
    change Awp _ _ _ _ _
    refine awp_block ?_
    refine Awp.le (le_ownB 15 14 1 262 64 rfl rfl rfl) ?_
    refine awp_rangeFC (α := List Nat) (β := Nat) (n := 33) (enc := encK) (items := chF l m) 1000 [(5, .ref 5 0), (18, .d (.fn (.func 216) [.pt [.sl 1 (l.map fC)] 0, .pt [.v (.int .i64 (64))] 0]))] (fun x => [(5, .tbox [.ref 15 0]), (15, .tbox [.d (.v (.int .i64 (ne))), .rs 14]), (14, .row 262 64 (tmR l x))]) (fun k x => x = k) (fun e x => False) 0 hrnd ?_ (.inr ⟨rfl, rfl⟩) en216 (chunk_i l m hb1 (by omega)) rfl (fun _ => rfl) rfl (fun x => fsl_mem (fsl_cons (fst_tbox (by repeat (first | exact ftl_nil | refine ftl_cons (by trivial) ?_))) (fsl_cons (fst_tbox (by repeat (first | exact ftl_nil | refine ftl_cons (by first | exact D.Flat.v _ | trivial) ?_))) (fsl_cons (tmR_flat _ _) fsl_nil)))) (fun _ => rfl) rfl (fun h => by cases h) ?_ ?_ ?_
    · exact le_cst (fun k => k) _ _ rfl ⟨(by first | rfl), (by first | rfl), trivial⟩ ⟨(by first | rfl), (by first | rfl), (by first | rfl), trivial⟩ rfl (fun k b h => by rw [hpn k] at h; cases h)
    ·
      intro w1 hw1 k x y hI hy
      subst hI
      obtain ⟨hlt, rfl⟩ := chF_at hy
      have hlk := chK_len hb1 hlt
      have hwk := chK_wh hb x
      have hsl := tmR_len l x
      have hrl : (((chK l x).map vI).map iv).length = 64 := by rw [List.length_map, List.length_map]; exact hlk
      have hs1 : tmR l x ++ [((chK l x).map vI).map iv] = tmR l (x + 1) := (tmR_succ _ _).symm
      refine awp_region 1 mixed (by kernel_rfl) ?_
      refine rg_q (q_assign (x := .d (.sl _ _)) rfl) ?_
      refine rn ?_
      refine ⟨rfl, fun w2 hw2 => ?_⟩
      refine awp_block ?_
      refine awp_regionL 9 1 [0] mixed (by kernel_rfl) ?_
      refine rg_q (q_load_tb (x := .ref _ _) sz256 rfl rfl rfl) ?_
      refine rg_q (q_load_tb (x := .ref _ _) sz256 rfl rfl rfl) ?_
      refine rg_q (q_nilCheck_ref rfl) (rg_q (q_fieldAddr_ref fld330_1 rfl) ?_)
      refine rg_q (q_load_tb (x := .rs _) sz328 rfl rfl rfl) ?_
      refine rg_q (q_move (x := .d (.sl _ _)) rfl) ?_
      refine rg_q (q_toArr (cs := (chK l x).map fd) ar236 rfl (fd_row _).symm (by rw [List.length_map]; exact hlk) (by decide)) ?_
      refine rg_q (q_call en232 (.cons rfl .nil) rfl (numbersOf_p (chK l x) hlk hwk)) ?_
      refine rg_q (q_buildSlice sl328 zr262 rfl rfl (by decide) (.cons rfl (by exact .inr ⟨_, rfl⟩) .nil) ⟨rfl, hrl, trivial⟩ rfl (by decide) rfl) ?_
      refine rg_nil ?_
      refine late_grow (c_append (es' := tmR l (x + 1)) sl328 zr262 by262 rfl (by decide) rfl rfl rfl rfl (by (try simp only [List.length_map, List.length_append, List.length_cons, List.length_nil]); omega) (by (try simp only [List.length_map, List.length_append, List.length_cons, List.length_nil]); omega) hs1) ?_ ?_
      · refine fl_cons rfl rfl rfl (c_q (q_load_tb (x := .ref _ _) sz256 rfl rfl rfl)) ?_
        exact fl_nil
      refine late_nil ?_
      refine aops_q rfl (q_nilCheck_ref rfl) ?_
      refine aops_q rfl (q_fieldAddr_ref fld330_1 rfl) ?_
      refine aops_storeT (z := .rs _) sz328 rfl rfl rfl rfl (by simp) rfl ?_
      refine aops_nil ?_
      refine .inl ⟨rfl, x + 1, rfl, ?_⟩
      exact le_round [] _ hw2 rfl ⟨(by rfl), (by rfl), (by rfl), trivial⟩ rfl
    ·
      intro x hI
      have hI2 : x = m := by rw [hI]; unfold chF; rw [List.length_map, List.length_range]
      subst hI2
      change Awp _ _ _ _ _
      refine awp_seq ?_
      refine Awp.le (le_freezeTB 15 14 1 rfl rfl rfl rfl hmine) ?_
      refine Awp.le (le_boxT 15 (tmC ne l x) rfl rfl (by intro j d h; match j, h with | 0, h => cases h; rfl | 1, h => cases h; rfl)) ?_
      refine awp_region 3 mixed (by kernel_rfl) ?_
      refine rg_q (q_load_tb (x := .ref _ _) sz256 rfl rfl rfl) ?_
      refine rg_q (q_assign (x := .ref _ _) rfl) (rg_q (q_a rfl) ?_)
      refine rn ?_
      change Awp _ _ _ _ _
      refine Awp.le (le_freeze 15 2 0 (cs := tmC ne l x) rfl rfl rfl rfl hmine) ?_
      refine awp_ret ?_
      refine ⟨_, (.cons (.tmp (by exact .d _)) (.cons (.tmp (by exact .d _)) .nil)), ?_⟩
      rfl
    ·
      exact fun e x h => h.elim

def encTQ (p : Int × Int) : List D := [.v (.int .i64 p.1), .v (.int .i64 p.2)]
set_option maxRecDepth 100000 in
theorem tall_i (n : Nat) (rws : List (List D)) (hn : n ≤ 1000) : PI Tryz.prog 156 [.pt [.v (.int .i64 ((n : Int))), .sl 64 rws] 0] [] (encTQ) (prL n) true := by
  refine pi_of_iwp Tryz.func156 rfl Tryz.ntmps156 rfl rfl fun J c l0 hJ hy hdat hfin => ?_
  refine iwp_seq ?_
  apply iwp_reg hJ
  ·
    intro c1 hmine hrnd
    refine awp_region 5 mixed (by kernel_rfl) ?_
    refine rg_q (q_move (x := .d (.pt _ _)) rfl) (rg_q (q_nilCheck rfl) (rg_q (q_fieldAddr fld330_0 rfl) (rg_q (q_load sz3 rfl rfl) (rg_q (q_m rfl) ?_))))
    refine rn ?_
    exact ⟨rfl, rfl⟩
  change Iwp _ _ _ _ _ _ _
  refine iwp_block ?_
  refine iwp_loopH [4, 5, 10, 11, 12, 13, 14, 15, 16, 17, 18, 19, 20, 21, 22, 23, 24, 25, 26] [] (β := Nat) (fun i => [(10, T.i (i : Int))]) (fun i => []) (fun i => (true, prF n i)) (fun i => i ≤ n) (fun i => n - i) 0 (Nat.zero_le _) rfl (fun c1 => ?_) ?_
  · exact le_head (ms := []) (by repeat (exact Out.refl _)) ⟨(by rfl), trivial⟩ trivial rfl rfl rfl rfl
  ·
    intro i hi
    refine iwp_seq ?_
    apply iwp_reg hJ
    ·
      intro c1 hmine hrnd
      refine awp_region 1 mixed (by kernel_rfl) ?_
      refine rg_q (q_lss rfl rfl) ?_
      refine rn ?_
      exact ⟨rfl, rfl⟩
    change Iwp _ _ _ _ _ _ _
    refine iwp_seq ?_
    refine iwp_cond rfl (fun hc1 => ?_) (fun hc1 => ?_)
    ·
      (try simp only [nb, ne_eq] at hc1)
      have hlt : i < n := by omega
      refine iwp_skip ?_
      change Iwp _ _ _ _ _ _ _
      refine iwp_seq ?_
      refine iwp_block ?_
      refine iwp_seq ?_
      apply iwp_reg hJ
      ·
        intro c1 hmine hrnd
        refine awp_region 2 mixed (by kernel_rfl) ?_
        refine rg_q (q_m rfl) (rg_q (q_a rfl) ?_)
        refine rn ?_
        exact ⟨rfl, rfl⟩
      change Iwp _ _ _ _ _ _ _
      refine iwp_seq ?_
      apply iwp_reg hJ
      ·
        intro c1 hmine hrnd
        refine awp_region 5 mixed (by kernel_rfl) ?_
        refine rg_q (q_move (x := .d (.pt _ _)) rfl) (rg_q (q_nilCheck rfl) (rg_q (q_fieldAddr fld330_0 rfl) (rg_q (q_load sz3 rfl rfl) (rg_q (q_m rfl) ?_))))
        refine rn ?_
        exact ⟨rfl, rfl⟩
      change Iwp _ _ _ _ _ _ _
      refine iwp_block ?_
      refine iwp_loopH [5, 17, 18, 19, 20, 21, 22, 23, 24, 25] [] (β := Nat) (fun j => [(17, T.i (j : Int))]) (fun j => []) (fun j => (true, prF n i ++ prR i j)) (fun j => j ≤ n) (fun j => n - j) 0 (Nat.zero_le _) (by show (true, _ ++ prR i 0) = (true, _); simp [prR]) (fun c1 => ?_) ?_
      · exact le_head (ms := []) (by repeat (exact Out.refl _)) ⟨(by rfl), trivial⟩ trivial rfl rfl rfl rfl
      ·
        intro j hj
        refine iwp_seq ?_
        apply iwp_reg hJ
        ·
          intro c1 hmine hrnd
          refine awp_region 1 mixed (by kernel_rfl) ?_
          refine rg_q (q_lss rfl rfl) ?_
          refine rn ?_
          exact ⟨rfl, rfl⟩
        change Iwp _ _ _ _ _ _ _
        refine iwp_seq ?_
        refine iwp_cond rfl (fun hc4 => ?_) (fun hc4 => ?_)
        ·
          (try simp only [nb, ne_eq] at hc4)
          have hlj : j < n := by omega
          have hpre : prF n i ++ prR i j ++ [((i : Int), (j : Int))] <+: prL n := by rw [List.append_assoc, ← prK_succ]; exact pr_pre hlt (by omega)
          refine iwp_skip ?_
          change Iwp _ _ _ _ _ _ _
          refine iwp_seq ?_
          refine iwp_block ?_
          refine iwp_seq ?_
          apply iwp_reg hJ
          ·
            intro c1 hmine hrnd
            refine awp_region 2 mixed (by kernel_rfl) ?_
            refine rg_q (q_m rfl) (rg_q (q_a rfl) ?_)
            refine rn ?_
            exact ⟨rfl, rfl⟩
          change Iwp _ _ _ _ _ _ _
          refine iwp_seq ?_
          refine iwp_region ?_
          refine iops_of hJ rfl (fun c1 _ _ _ h => by exact aops_q rfl ((q_move (x := .d (.fn _ _)) rfl)) h) ?_
          refine iops_of hJ rfl (fun c1 _ _ _ h => by exact aops_q rfl ((q_m rfl)) h) ?_
          refine iops_of hJ rfl (fun c1 _ _ _ h => by exact aops_q rfl ((q_m rfl)) h) ?_
          refine iops_yield (x := ((i : Int), (j : Int))) hy hdat rfl (.cons rfl (.cons rfl .nil)) hpre rfl (fun yb => ?_)
          refine iops_of hJ rfl (fun c1 _ _ _ h => by exact aops_q rfl ((q_not rfl)) h) ?_
          refine iops_nil ?_
          change Iwp _ _ _ _ _ _ _
          refine iwp_cond rfl (fun hc6 => ?_) (fun hc6 => ?_)
          ·
            (try simp only [nb, ne_eq] at hc6)
            have hyb : yb = false := by cases yb <;> first | rfl | (exfalso; simp_all; done)
            refine iwp_ret ?_
            exact ⟨.inl rfl, fun h => by rw [hyb] at h; cases h⟩
          ·
            (try simp only [nb, ne_eq] at hc6)
            have hyb : yb = true := by cases yb <;> first | rfl | (exfalso; simp_all; done)
            refine iwp_skip ?_
            change Iwp _ _ _ _ _ _ _
            apply iwp_reg hJ
            ·
              intro c1 hmine hrnd
              refine awp_region 2 mixed (by kernel_rfl) ?_
              refine rg_q (q_add rfl rfl (In64.mk (by omega) (by omega))) ?_
              refine rg_q (q_m rfl) ?_
              refine rn ?_
              exact ⟨rfl, rfl⟩
            refine ⟨j + 1, by omega, by omega, by rw [hyb, prK_succ, List.append_assoc], fun c1 => ?_⟩
            exact le_head (ms := []) (by repeat (first | exact Out.head rfl rfl | (refine Out.put ?_ rfl))) ⟨(by rfl), trivial⟩ trivial rfl rfl rfl rfl
        ·
          (try simp only [nb, ne_eq] at hc4)
          have hjn : j = n := by omega
          refine iwp_exit ?_
          change Iwp _ _ _ _ _ _ _
          apply iwp_reg hJ
          ·
            intro c1 hmine hrnd
            refine awp_region 2 mixed (by kernel_rfl) ?_
            refine rg_q (q_add rfl rfl (In64.mk (by omega) (by omega))) ?_
            refine rg_q (q_m rfl) ?_
            refine rn ?_
            exact ⟨rfl, rfl⟩
          refine ⟨i + 1, by omega, by omega, by rw [hjn, prF_succ], fun c1 => ?_⟩
          exact le_head (ms := []) (by repeat (first | exact Out.head rfl rfl | (refine Out.put ?_ rfl) | (refine Out.headIn ?_ rfl rfl rfl))) ⟨(by rfl), trivial⟩ trivial rfl rfl rfl rfl
    ·
      (try simp only [nb, ne_eq] at hc1)
      have hin : i = n := by omega
      refine iwp_exit ?_
      exact ⟨.inr rfl, fun _ => by rw [hin]; rfl⟩
set_option maxRecDepth 100000 in
theorem tat_p (n : Nat) (rws : List (List D)) (f r : Int) (row : List D) (hn : n ≤ 16) (hf : 0 ≤ f ∧ f ≤ 16) (hr : 0 ≤ r ∧ r ≤ 16) (hx : rws[(f * (n : Int) + r).toNat]? = some row) : PC Tryz.prog 157 [.pt [.v (.int .i64 ((n : Int))), .sl 64 rws] 0, .v (.int .i64 (f)), .v (.int .i64 (r))] (.pt row 0) := by
 have hm := mulb (a := f) (b := (n : Int)) (A := 16) (B := 16) (by omega) (by omega) (by omega) (by omega)
 have hmp := Int.mul_nonneg hf.1 (show 0 ≤ (n : Int) by omega)
 refine pc_of_awp Tryz.func157 rfl Tryz.ntmps157 (rs := [.tmp 6]) Tryz.results157 (by simp) fun w0 => ?_
 refine awp_seq ?_
 refine awp_region 1 mixed (by kernel_rfl) ?_
 refine rg_q (q_a rfl) ?_
 refine rs (awp_region 14 mixed (by kernel_rfl) ?_)
 refine rg_q (q_move (x := .d (.pt _ _)) rfl) (rg_q (q_nilCheck rfl) (rg_q (q_fieldAddr fld330_1 rfl) (rg_q (q_load sz328 rfl rfl) (rg_q (q_m rfl) (rg_q (q_move (x := .d (.pt _ _)) rfl) ?_)))))
 refine rg_q (q_nilCheck rfl) (rg_q (q_fieldAddr fld330_0 rfl) (rg_q (q_load sz3 rfl rfl) ?_))
 refine rg_q (q_mul rfl rfl (In64.mk (by omega) (by omega))) ?_
 refine rg_q (q_m rfl) ?_
 refine rg_q (q_add rfl rfl (In64.mk (by omega) (by omega))) ?_
 refine rg_q (q_indexAddr sl328 rfl rfl (by omega) (hx)) ?_
 refine rg_q (q_assign (x := .d (.pt _ _)) rfl) ?_
 refine rn ?_
 change Awp _ _ _ _ _
 refine awp_ret ?_
 refine ⟨_, (.cons (.tmp (by exact .d _)) .nil), ?_⟩
 rfl

theorem tmR_at {l : List Nat} {m i : Nat} (h : i < m) : (tmR l m)[i]? = some (((chK l i).map vI).map iv) := by
  unfold tmR chF
  rw [List.getElem?_map, List.getElem?_map, List.getElem?_range h]; rfl
theorem tiv_at {S : List Int} {k : Nat} {v : Int} (h : S[k]? = some v) : (S.map iv)[0 + (k : Int).toNat * 1]? = some (iv v) := by rw [Int.toNat_natCast, Nat.zero_add, Nat.mul_one, List.getElem?_map, h]; rfl
def rwT (l : List Nat) (n : Nat) (p : Int × Int) : List Int := (chK l (p.1 * (n : Int) + p.2).toNat).map vI
theorem rwT_idx {n : Nat} {p : Int × Int} (h1 : 0 ≤ p.1 ∧ p.1 < n) (h2 : 0 ≤ p.2 ∧ p.2 < n) : (p.1 * (n : Int) + p.2).toNat < n * n := by
  obtain ⟨a, b⟩ := p
  simp only at h1 h2 ⊢
  obtain ⟨u, rfl⟩ := Int.eq_ofNat_of_zero_le h1.1
  obtain ⟨r, rfl⟩ := Int.eq_ofNat_of_zero_le h2.1
  have hk : ((u : Int) * (n : Int) + (r : Int)).toNat = u * n + r := by
    rw [show ((u : Int) * (n : Int) + (r : Int)) = ((u * n + r : Nat) : Int) by rw [Int.natCast_add, Int.natCast_mul]]
    exact Int.toNat_natCast _
  rw [hk]
  have h3 : u + 1 ≤ n := by omega
  have h4 := Nat.mul_le_mul h3 (Nat.le_refl n)
  rw [Nat.succ_mul] at h4
  omega
theorem rwT_at {l : List Nat} {n : Nat} {p : Int × Int} (h1 : 0 ≤ p.1 ∧ p.1 < n) (h2 : 0 ≤ p.2 ∧ p.2 < n) : (tmR l (n * n))[(p.1 * (n : Int) + p.2).toNat]? = some ((rwT l n p).map iv) := tmR_at (rwT_idx h1 h2)
theorem rwT_len {l : List Nat} {n : Nat} {p : Int × Int} (hl : (l.length : Int) = (n : Int) * (n : Int) * 64) (h1 : 0 ≤ p.1 ∧ p.1 < n) (h2 : 0 ≤ p.2 ∧ p.2 < n) : (rwT l n p).length = 64 := by
  unfold rwT
  rw [List.length_map]
  refine chK_len (m := n * n) ?_ (rwT_idx h1 h2)
  rw [← Int.natCast_mul] at hl
  omega
set_option maxRecDepth 100000 in
theorem tunlike_p (n : Nat) (l : List Nat) (h1 : 1 ≤ n) (h2 : n ≤ 16) (hl : (l.length : Int) = (n : Int) * (n : Int) * 64) (hb : WhlL l) (hs : ∀ p ∈ prL n, p.1 < p.2 → rwT l n p = rwT l n (p.2, p.1)) : PC Tryz.prog 81 [.agg [.v (.int .i64 ((n : Int))), .sl 1 (l.map fC)], .v (.int .i64 (0))] (.tup [.v (.slice none 0 0), .v (.int .i64 (0))]) := by
 have hnn : ((n : Int) * (n : Int)).toNat = n * n := by rw [← Int.natCast_mul]; exact Int.toNat_natCast _
 have htp := topen_p (n : Int) l (by omega) (by omega) hl hb
 rw [hnn] at htp
 refine pc_of_awpN Tryz.func81 rfl Tryz.ntmps81 (rs := [.tmp 4, .tmp 5]) Tryz.results81 (by simp) fun w0 hmine hrnd hpn => ?_
 refine awp_seq ?_
 refine awp_region 4 mixed (by kernel_rfl) ?_
 refine rg_q (q_box rfl (by exact .inr ⟨_, rfl⟩)) ?_
 refine rg_q (q_box rfl (by exact .inl rfl)) ?_
 refine rg_q (q_assign (x := .d (.sl _ _)) rfl) (rg_q (q_a rfl) ?_)
 refine rs (awp_region 5 mixed (by kernel_rfl) ?_)
 refine rg_q (q_loadA (ds := [_, _]) sz31 rfl rfl rfl) ?_
 refine rg_q (q_call en154 (.cons rfl .nil) rfl (htp)) ?_
 refine rg_q (q_move (x := .d (.tup _)) rfl) (rg_q (q_extract rfl rfl) (rg_q (q_extract rfl rfl) ?_))
 refine rg_nil ?_
 refine aops_alloc zr256 rfl rfl rfl ?_
 refine aops_store sz256 rfl rfl (by exact .inl rfl) rfl rfl (by decide) rfl ?_
 refine aops_q rfl (q_a rfl) ?_
 refine aops_nil ?_
 change Awp _ _ _ _ _
 refine awp_seq ?_
 refine awp_block ?_
 refine awp_seq ?_
 refine awp_region 3 mixed (by kernel_rfl) ?_
 refine rg_q (q_m rfl) (rg_q (q_neq rfl rfl) (rg_q (q_a rfl) ?_))
 refine rn ?_
 change Awp _ _ _ _ _
 refine awp_cond rfl (fun hc2 => ?_) (fun hc2 => ?_)
 ·
  simp at hc2
 ·
  (try simp only [nb, ne_eq] at hc2)
  refine awp_seq ?_
  refine awp_region 4 mixed (by kernel_rfl) ?_
  refine rg_q (q_load sz3 rfl rfl) ?_
  refine rg_q (q_call en155 (.cons rfl (.cons rfl (.cons rfl .nil))) rfl (twithin_p _ _ _)) ?_
  refine rg_q (q_not rfl) (rg_q (q_a rfl) ?_)
  refine rn ?_
  change Awp _ _ _ _ _
  refine awp_cond rfl (fun hc4 => ?_) (fun hc4 => ?_)
  ·
   simp [inR] at hc4
  ·
   (try simp only [nb, ne_eq] at hc4)
   refine awp_skip ?_
   change Awp _ _ _ _ _
   refine awp_seq ?_
   refine awp_region 0 mixed (by kernel_rfl) ?_
   refine rg_nil ?_
   refine aops_alloc zr140 rfl rfl rfl ?_
   refine aops_nil ?_
   change Awp _ _ _ _ _
   refine awp_seq ?_
   refine awp_seq ?_
   refine awp_region 2 mixed (by kernel_rfl) ?_
   refine rg_q (q_load_ref sz256 rfl rfl rfl) ?_
   refine rg_q (q_makeMfn (.cons rfl .nil)) ?_
   refine rn ?_
   change Awp _ _ _ _ _
   refine awp_block ?_
   refine awp_rangeC (α := Int × Int) (β := Nat) (n := 69) (enc := encTQ) (items := prL n) 1000 [(3, .d (.pt [.v (.int .i64 (0))] 0)), (6, .ref 6 0), (8, .ref 8 0), (28, .d (.mfn (.func 156) [.pt ([.v (.int .i64 ((n : Int))), .sl 64 (tmR l (n * n))]) 0]))] (fun x => [(6, .box [.pt ([.v (.int .i64 ((n : Int))), .sl 64 (tmR l (n * n))]) 0]), (8, .box [.v (.slice none 0 0)])]) (fun k x => x = 0) (fun e x => False) 0 hrnd ?_ (.inl ⟨rfl, rfl⟩) en156 (tall_i n (tmR l (n * n)) (by omega)) rfl (fun _ => rfl) rfl (fun _ => by repeat first | exact trivial | refine ⟨by exact .v _, ?_⟩) (fun _ => rfl) rfl (fun h => by cases h) ?_ ?_ ?_
   · exact le_cst (fun k => k) _ _ rfl ⟨rfl, rfl, rfl, rfl, trivial⟩ ⟨rfl, rfl, trivial⟩ rfl (fun k b h => by rw [hpn k] at h; cases h)
   ·
    intro w1 hw1 k x y hI hy
    have hpy := prL_in (List.mem_of_getElem? hy)
    obtain ⟨⟨p1, p2⟩, p3, p4⟩ := hpy
    have hr1 := rwT_at (l := l) (n := n) (p := y) ⟨p1, p2⟩ ⟨p3, p4⟩
    have hry := rwT_len hl (p := y) ⟨p1, p2⟩ ⟨p3, p4⟩
    have hrz := rwT_len hl (p := (y.2, y.1)) ⟨p3, p4⟩ ⟨p1, p2⟩
    have hr2 := rwT_at (l := l) (n := n) (p := (y.2, y.1)) ⟨p3, p4⟩ ⟨p1, p2⟩
    refine awp_seq ?_
    refine awp_region 1 mixed (by kernel_rfl) ?_
    refine rg_q (q_a rfl) ?_
    refine rn ?_
    change Awp _ _ _ _ _
    refine awp_region 1 mixed (by kernel_rfl) ?_
    refine rg_q (q_a rfl) ?_
    refine rn ?_
    refine ⟨rfl, fun w2 hw2 => ?_⟩
    refine awp_block ?_
    refine awp_seq ?_
    refine awp_region 10 mixed (by kernel_rfl) ?_
    refine rg_q (q_load_ref sz256 rfl rfl rfl) (rg_q (q_m rfl) (rg_q (q_m rfl) ?_))
    refine rg_q (q_call en157 (.cons rfl (.cons rfl (.cons rfl .nil))) rfl (tat_p n (tmR l (n * n)) y.1 y.2 _ h2 (by omega) (by omega) hr1)) ?_
    refine rg_q (q_load_ref sz256 rfl rfl rfl) (rg_q (q_m rfl) (rg_q (q_m rfl) ?_))
    refine rg_q (q_call en157 (.cons rfl (.cons rfl (.cons rfl .nil))) rfl (tat_p n (tmR l (n * n)) y.2 y.1 _ h2 (by omega) (by omega) hr2)) ?_
    refine rg_q (q_assign (x := .d (.pt _ _)) rfl) (rg_q (q_assign (x := .d (.pt _ _)) rfl) ?_)
    refine rs (awp_region 1 mixed (by kernel_rfl) ?_)
    refine rg_q (q_m rfl) ?_
    refine rn ?_
    change Awp _ _ _ _ _
    refine awp_block ?_
    refine awp_loopH [13, 39, 40, 41, 42, 43, 44, 45, 46, 47, 48, 49, 50, 51, 52, 53, 54, 55, 56, 57, 58, 59, 60, 61, 62, 63, 64, 65, 66, 67] [] (α := Nat) (fun k => [(39, T.i (k : Int))]) (fun k => []) (fun k => k ≤ 64) (fun k => 64 - k) 0 (Nat.zero_le _) ?_ ?_
    · exact le_head (ms := []) (by repeat (exact Out.refl _)) ⟨(by rfl), trivial⟩ trivial rfl rfl rfl rfl
    ·
     intro k hk
     refine awp_seq ?_
     refine awp_region 1 mixed (by kernel_rfl) ?_
     refine rg_q (q_lss rfl rfl) ?_
     refine rn ?_
     change Awp _ _ _ _ _
     refine awp_seq ?_
     refine awp_cond rfl (fun hc12 => ?_) (fun hc12 => ?_)
     ·
      (try simp only [nb, ne_eq] at hc12)
      have hlt : k < 64 := by omega
      obtain ⟨v, hv⟩ : ∃ v, (rwT l n y)[k]? = some v := ⟨_, List.getElem?_eq_getElem (by rw [hry]; exact hlt)⟩
      obtain ⟨v2, hv2⟩ : ∃ v2, (rwT l n (y.2, y.1))[k]? = some v2 := ⟨_, List.getElem?_eq_getElem (by rw [hrz]; exact hlt)⟩
      have hvb := vI_in (chK_wh hb _) v (List.mem_of_getElem? hv)
      have hvb2 := vI_in (chK_wh hb _) v2 (List.mem_of_getElem? hv2)
      have hld := tiv_at hv
      have hld2 := tiv_at hv2
      refine awp_skip ?_
      change Awp _ _ _ _ _
      refine awp_seq ?_
      refine awp_block ?_
      refine awp_seq ?_
      refine awp_region 2 mixed (by kernel_rfl) ?_
      refine rg_q (q_m rfl) (rg_q (q_a rfl) ?_)
      refine rs (awp_region 19 mixed (by kernel_rfl) ?_)
      refine rg_q (q_m rfl) (rg_q (q_m rfl) (rg_q (q_lss rfl rfl) (rg_q (q_m rfl) ?_)))
      refine rg_g rfl rfl (fun hG => (q_move (x := .d (.pt _ _)) rfl)) ?_
      refine rg_g rfl rfl (fun hG => (q_m rfl)) ?_
      refine rg_g rfl rfl (fun hG => (q_nilCheck rfl)) ?_
      refine rg_g rfl rfl (fun hG => (q_indexAddr_ar ar262 rfl rfl (by (have hg0 := T.bool_inj (a := _) hG.1; (try simp only [nb, ne_eq] at hg0); omega)) (by (have hg0 := T.bool_inj (a := _) hG.1; (try simp only [nb, ne_eq] at hg0); omega)))) ?_
      refine rg_g rfl rfl (fun hG => (q_load sz3 rfl hld)) ?_
      refine rg_g rfl rfl (fun hG => (q_move (x := .d (.pt _ _)) rfl)) ?_
      refine rg_g rfl rfl (fun hG => (q_m rfl)) ?_
      refine rg_g rfl rfl (fun hG => (q_nilCheck rfl)) ?_
      refine rg_g rfl rfl (fun hG => (q_indexAddr_ar ar262 rfl rfl (by (have hg0 := T.bool_inj (a := _) hG.1; (try simp only [nb, ne_eq] at hg0); omega)) (by (have hg0 := T.bool_inj (a := _) hG.1; (try simp only [nb, ne_eq] at hg0); omega)))) ?_
      refine rg_g rfl rfl (fun hG => (q_load sz3 rfl hld2)) ?_
      refine rg_g rfl rfl (fun hG => (q_sub rfl rfl (In64.mk (by (have hg0 := T.bool_inj (a := _) hG.1; (try simp only [nb, ne_eq] at hg0); omega)) (by (have hg0 := T.bool_inj (a := _) hG.1; (try simp only [nb, ne_eq] at hg0); omega))))) ?_
      refine rg_g rfl rfl (fun hG => (q_call en158 (.cons rfl .nil) rfl ((tsize_p (v - v2) (by omega) (by omega))))) ?_
      refine rg_g rfl rfl (fun hG => (q_load sz3 rfl rfl)) ?_
      refine rg_g rfl rfl (fun hG => (q_gtr rfl rfl)) ?_
      refine rg_pick rfl rfl rfl rfl rfl rfl ?_
      refine rn ?_
      change Awp _ _ _ _ _
      refine awp_cond rfl (fun hc14 => ?_) (fun hc14 => ?_)
      ·
       (try simp only [nb, ne_eq] at hc14)
       rw [← hs y (List.mem_of_getElem? hy) hc14.1, hv] at hv2
       cases hv2
       have := hc14.2
       omega
      ·
       (try simp only [nb, ne_eq] at hc14)
       refine awp_skip ?_
       change Awp _ _ _ _ _
       refine awp_region 2 mixed (by kernel_rfl) ?_
       refine rg_q (q_add rfl rfl (In64.mk (by omega) (by omega))) ?_
       refine rg_q (q_m rfl) ?_
       refine rn ?_
       refine ⟨k + 1, by omega, by omega, ?_⟩
       exact le_head (ms := []) (by repeat (first | exact Out.head rfl rfl | (refine Out.put ?_ rfl))) ⟨(by rfl), trivial⟩ trivial rfl rfl rfl rfl
     ·
      (try simp only [nb, ne_eq] at hc12)
      refine awp_exit ?_
      refine .inl ⟨rfl, x, hI, ?_⟩
      exact le_round [] _ hw2 rfl ⟨(by rfl), (by rfl), trivial⟩ rfl
   ·
    intro x hI
    change Awp _ _ _ _ _
    refine awp_seq ?_
    refine awp_region 3 mixed (by kernel_rfl) ?_
    refine rg_q (q_load_ref sz140 rfl rfl rfl) (rg_q (q_a rfl) (rg_q (q_a rfl) ?_))
    refine rn ?_
    change Awp _ _ _ _ _
    refine awp_ret ?_
    refine ⟨_, (.cons (.tmp (by exact .d _)) (.cons (.tmp (by exact .d _)) .nil)), ?_⟩
    rfl
   ·
    exact fun e x h => h.elim
end Go.Proofs.YtphlaicnmmglhaaGreat.Am.M
namespace Go.Proofs.YtphlaicnmmglhaaGreat.Am.M
open Go

def ctr (a : Arr) (pl : List Int) (pr : Int × Int) (q : (Int × Int) × Int) (i : Nat) : Int :=
  if smpI a q.1 pr ≤ (i : Int) ∧ (i : Int) < smpI a q.1 pr + (pl.length : Int) then q.2 * pl.getD ((i : Int) - smpI a q.1 pr).toNat 0 else 0
def sumC (a : Arr) (pl : List Int) (pr : Int × Int) : List ((Int × Int) × Int) → Nat → Int
  | [], _ => 0
  | q :: P, i => ctr a pl pr q i + sumC a pl pr P i
theorem sumC_app {a : Arr} {pl : List Int} {pr : Int × Int} {i : Nat} : ∀ P Q : List ((Int × Int) × Int), sumC a pl pr (P ++ Q) i = sumC a pl pr P i + sumC a pl pr Q i
  | [], Q => by show sumC a pl pr Q i = 0 + sumC a pl pr Q i; omega
  | q :: P, Q => by
    show ctr a pl pr q i + sumC a pl pr (P ++ Q) i = ctr a pl pr q i + sumC a pl pr P i + sumC a pl pr Q i
    rw [sumC_app P Q]; omega
theorem smT_at {a : Arr} {pl : List Int} {pr : Int × Int} {P : List ((Int × Int) × Int)} {i : Nat} (hi : i < 64) : ∀ k : Nat, k ≤ P.length → (smT a pl pr P k).getD i 0 = sumC a pl pr (P.take k) i
  | 0, _ => by
    show zI.getD i 0 = 0
    rw [List.getD_eq_getElem?_getD, List.getElem?_eq_getElem (show i < zI.length from hi)]
    exact List.eq_of_mem_replicate (List.getElem_mem _)
  | k + 1, hk => by
    have ih := smT_at (a := a) (pl := pl) (pr := pr) (P := P) hi k (by omega)
    have hP : ptA P k = P[k] := by unfold ptA; rw [List.getD_eq_getElem?_getD, List.getElem?_eq_getElem (by omega)]; rfl
    show (adT (smT a pl pr P k) pl (ptA P k).2 (smpI a (ptA P k).1 pr) pl.length).getD i 0 = _
    rw [adT_at pl.length i (by rw [smT_len]; exact hi) (smT_len k), ih, List.take_succ_eq_append_getElem (by omega), sumC_app, hP]
    show _ = sumC a pl pr (P.take k) i + (ctr a pl pr P[k] i + 0)
    unfold ctr
    omega
def smA (s : Spc) (pr : Int × Int) : List Int := smT s.ar s.pl pr (ptsS s) (ptsS s).length
theorem smA_at {s : Spc} {pr : Int × Int} {i : Nat} (hi : i < 64) : (smA s pr).getD i 0 = sumC s.ar s.pl pr (ptsS s) i := by
  unfold smA
  rw [smT_at hi _ (Nat.le_refl _), List.take_length]
theorem ckFls_zero {t : Int} : ∀ {l : List Flw} {i : Nat}, (∀ x ∈ l, flE t x = 0) → (ckFls t i l).2 = 0
  | [], _, _ => rfl
  | x :: xs, i, h => by
    unfold ckFls
    rw [if_neg (fun q => q (h x (by simp)))]
    exact ckFls_zero fun y hy => h y (by simp [hy])
theorem ckFls_flE {t : Int} : ∀ {l : List Flw} {i : Nat}, (ckFls t i l).2 = 0 → ∀ x ∈ l, flE t x = 0
  | [], _, _, x, hx => by cases hx
  | y :: ys, i, h, x, hx => by
    unfold ckFls at h
    by_cases h1 : flE t y ≠ 0
    · rw [if_pos h1] at h; exact absurd h h1
    · rw [if_neg h1] at h
      rcases List.mem_cons.1 hx with rfl | hx
      · exact Decidable.not_not.1 h1
      · exact ckFls_flE h x hx
theorem spc_flE {s : Spc} (h : (ckSpc s).2 = 0) : ∀ x ∈ s.fl, flE s.ar.ou.t x = 0 := by
  unfold ckSpc at h
  by_cases h1 : (ckArr s.ar).2 ≠ 0
  · rw [if_pos h1] at h; exact absurd h h1
  rw [if_neg h1] at h
  by_cases h2 : spcE0 s ≠ 0
  · rw [if_pos h2] at h; exact absurd h h2
  rw [if_neg h2] at h
  exact ckFls_flE h
theorem smp_sw {a : Arr} (h : a.ou = a.ba) (t : Int × Int) (f r : Int) : smpI a t (f, r) = smpI a t (r, f) := by
  unfold smpI echI; rw [h]; simp only; rw [Int.add_comm]
theorem smT_sw {a : Arr} {pl : List Int} {P : List ((Int × Int) × Int)} (h : a.ou = a.ba) (f r : Int) : ∀ k : Nat, smT a pl (f, r) P k = smT a pl (r, f) P k
  | 0 => rfl
  | k + 1 => by show adT _ _ _ _ _ = adT _ _ _ _ _; rw [smT_sw h f r k, smp_sw h]
theorem mtS_sw {s : Spc} (h : s.ar.ou = s.ar.ba) (f r : Int) : mtS s (f, r) = mtS s (r, f) := smT_sw h f r _

theorem spc_one {s : Spc} {x : Flw} (h : (ckSpc s).2 = 0) (hx : x ∈ s.fl) : (ckSpc ⟨s.ar, s.pl, [x]⟩).2 = 0 := by
  have hf := spc_flE h x hx
  unfold ckSpc at h ⊢
  by_cases h1 : (ckArr s.ar).2 ≠ 0
  · rw [if_pos h1] at h; exact absurd h h1
  rw [if_neg h1] at h ⊢
  by_cases h2 : spcE0 s ≠ 0
  · rw [if_pos h2] at h; exact absurd h h2
  rw [if_neg h2] at h
  have h4 : plsE s.pl = 0 := by
    have h3 := Decidable.not_not.1 h2
    unfold spcE0 at h3
    exact first_zero.1 h3 _ (by simp)
  have h3 : spcE0 ⟨s.ar, s.pl, [x]⟩ = 0 := by
    unfold spcE0
    rw [first_zero]
    simp only [List.mem_cons, List.not_mem_nil, or_false, forall_eq_or_imp, forall_eq]
    exact ⟨h4, (when_zero (show (8 : Int) ≠ 0 by decide)).2 (decide_eq_false (by show ¬ (10 < ((1 : Nat) : Int)); omega))⟩
  rw [if_neg (fun q => q h3)]
  exact ckFls_zero (fun y hy => by rw [List.mem_singleton.1 hy]; exact hf)
theorem mtS_at {s : Spc} {p : Int × Int} {i : Nat} (hi : i < 64) : (mtS s p).getD i 0 = sumC s.ar s.pl p (ptsS s) i := smA_at hi
theorem mtS_add {s : Spc} {x y : Flw} (hf : s.fl = [x, y]) {p : Int × Int} {i : Nat} (hi : i < 64) : (mtS s p).getD i 0 = (mtS ⟨s.ar, s.pl, [x]⟩ p).getD i 0 + (mtS ⟨s.ar, s.pl, [y]⟩ p).getD i 0 := by
  rw [mtS_at hi, mtS_at hi, mtS_at hi]
  show sumC _ _ _ (s.fl.flatMap ptsL) i = sumC _ _ _ ([x].flatMap ptsL) i + sumC _ _ _ ([y].flatMap ptsL) i
  rw [hf, List.flatMap_cons, List.flatMap_cons, List.flatMap_nil, List.flatMap_cons, List.flatMap_nil, List.append_nil, List.append_nil, sumC_app]
theorem gD {l : List Int} {i : Nat} {v : Int} (h : l[i]? = some v) : l.getD i 0 = v := by rw [List.getD_eq_getElem?_getD, h]; rfl
theorem mxB_add {s : Spc} {x y : Flw} (hf : s.fl = [x, y]) : ∀ (l : List (Int × Int)) (j : Nat) (a b c : Int), (mxB ⟨s.ar, s.pl, [x]⟩ l)[j]? = some a → (mxB ⟨s.ar, s.pl, [y]⟩ l)[j]? = some b → (mxB s l)[j]? = some c → c = a + b
  | [], j, a, b, c, h, _, _ => by simp [mxB] at h
  | p :: l, j, a, b, c, h1, h2, h3 => by
    have e : ∀ t : Spc, mxB t (p :: l) = mtS t p ++ mxB t l := fun t => by unfold mxB; rw [List.flatMap_cons]
    rw [e] at h1 h2 h3
    by_cases hj : j < 64
    · rw [List.getElem?_append_left (by rw [mtS_len]; exact hj)] at h1 h2 h3
      have := mtS_add hf (p := p) hj
      rw [gD h1, gD h2, gD h3] at this
      exact this
    · rw [List.getElem?_append_right (by rw [mtS_len]; omega), mtS_len] at h1 h2 h3
      exact mxB_add hf l (j - 64) a b c h1 h2 h3
theorem sE_near : ∀ a ∈ List.range 64, ∀ b ∈ List.range 64, sE (FloatKind.f32.nearest (max (-2047) (((64 * a + b : Nat) : Int) - 2048))) = 0 := by decide +kernel
theorem sE_nr {v : Int} (h1 : -2047 ≤ v) (h2 : v ≤ 2047) : sE (FloatKind.f32.nearest v) = 0 := by
  have h := sE_near ((v + 2048).toNat / 64) (List.mem_range.2 (by omega)) ((v + 2048).toNat % 64) (List.mem_range.2 (by omega))
  rw [Nat.div_add_mod] at h
  rwa [show max (-2047) ((((v + 2048).toNat : Nat) : Int) - 2048) = v by omega] at h
theorem ssE_zero5 : ∀ {l : List Nat} {i : Nat}, (∀ b ∈ l, sE b = 0) → (ssE i l).2 = 0
  | [], _, _ => rfl
  | b :: l, i, h => by
    unfold ssE
    rw [if_neg (fun q => q (h b (by simp)))]
    exact ssE_zero5 fun c hc => h c (by simp [hc])
def gtE (a : Arr) (g : Grd) : Int := if ckG g ≠ 0 then ckG g else whenI (!inR 1 g.fz (a.ou.t - 1) || !inR 1 (spI g (g.co * g.ro - 1)).2 (a.ou.t - 1)) 22
theorem gtE_ne (a : Arr) (g : Grd) : gtE a g ≠ 13 := by
  unfold gtE ckG whenI
  (repeat' split) <;> simp_all
theorem ta_blen {s : Spc} {g : Grd} : ((taS s g).bf.length : Int) = (s.ar.el.length : Int) * s.ar.el.length * 64 := by
  show (((mxB s (prL s.ar.el.length)).map FloatKind.f32.nearest).length : Int) = _
  rw [List.length_map, mxB_len]
  unfold prL
  rw [prF_len, Int.natCast_mul, Int.natCast_mul]
  omega
theorem ck_ar {s : Spc} (h : (ckSpc s).2 = 0) : (ckArr s.ar).2 = 0 := by
  unfold ckSpc at h
  by_cases h1 : (ckArr s.ar).2 ≠ 0
  · rw [if_pos h1] at h; exact absurd h h1
  · exact Decidable.not_not.1 h1
theorem ckT_ta {s : Spc} {g : Grd} (h0 : (ckSpc s).2 = 0) (hb : (prL s.ar.el.length).any (bigP s) = false) : (ckT (taS s g)).2 = gtE s.ar g := by
  have hok := (spc_ok h0).ar
  have hn1 := hok.n1
  have hn2 := hok.n2
  have hm : (ckM (taS s g).ne (taS s g).bf).2 = 0 := by
    unfold ckM
    rw [if_pos (inR_iff.2 (by show 1 ≤ (s.ar.el.length : Int) ∧ (s.ar.el.length : Int) ≤ 16; omega)), if_neg (fun q => q ta_blen)]
    refine ssE_zero5 fun b hq => ?_
    obtain ⟨v, hv, rfl⟩ := List.mem_map.1 (show b ∈ (mxB s (prL s.ar.el.length)).map FloatKind.f32.nearest from hq)
    obtain ⟨v1, v2⟩ := mx_in5 hb v hv
    exact sE_nr v1 v2
  unfold ckT
  rw [if_neg (fun q => q (ck_ar h0)), if_neg (fun q => q hm), if_neg (fun q => q rfl)]
  unfold gtE
  by_cases h3 : ckG g ≠ 0
  · rw [if_pos h3, if_pos (show ckG (taS s g).g ≠ 0 from h3)]; rfl
  · rw [if_neg h3, if_neg (show ¬ ckG (taS s g).g ≠ 0 from h3)]; rfl
theorem ta_sym {s : Spc} {g : Grd} (hb : (prL s.ar.el.length).any (bigP s) = false) (he : s.ar.ou = s.ar.ba) : ∀ p ∈ prL s.ar.el.length, p.1 < p.2 → rwT (taS s g).bf s.ar.el.length p = rwT (taS s g).bf s.ar.el.length (p.2, p.1) := by
  intro p hp _
  have h := prL_in hp
  have h1 : rwT (taS s g).bf s.ar.el.length p = mtS s p := ta_smp (g := g) hb h
  have h2 : rwT (taS s g).bf s.ar.el.length (p.2, p.1) = mtS s (p.2, p.1) := ta_smp (g := g) hb (y := (p.2, p.1)) ⟨h.2, h.1⟩
  rw [h1, h2]
  exact mtS_sw he p.1 p.2
theorem ta_wh {s : Spc} {g : Grd} (hb : (prL s.ar.el.length).any (bigP s) = false) : WhlL (taS s g).bf := by
  intro b hq
  obtain ⟨v, hv, rfl⟩ := List.mem_map.1 (show b ∈ (mxB s (prL s.ar.el.length)).map FloatKind.f32.nearest from hq)
  obtain ⟨v1, v2⟩ := mx_in5 hb v hv
  rw [vI_near v1 v2]
  exact whl_fn v1 v2
theorem img_add {s : Spc} {g : Grd} {x y : Flw} (hf : s.fl = [x, y]) (hb : (prL s.ar.el.length).any (bigP s) = false) (hx : (prL s.ar.el.length).any (bigP ⟨s.ar, s.pl, [x]⟩) = false) (hy : (prL s.ar.el.length).any (bigP ⟨s.ar, s.pl, [y]⟩) = false)
    (cx : (ckT (taS ⟨s.ar, s.pl, [x]⟩ g)).2 = 0) (cy : (ckT (taS ⟨s.ar, s.pl, [y]⟩ g)).2 = 0) (cs : (ckT (taS s g)).2 = 0) :
    mgR [(imgR (taS ⟨s.ar, s.pl, [x]⟩ g)).1, (imgR (taS ⟨s.ar, s.pl, [y]⟩ g)).1] = ((imgR (taS s g)).1, 0) := by
  rw [img_ok5 cx, img_ok5 cy, img_ok5 cs]
  have ox := ckT_ok cx
  have oy := ckT_ok cy
  have hcl := cl_le ox
  obtain ⟨A, hA⟩ : ∃ A, A = (taS ⟨s.ar, s.pl, [x]⟩ g).bf := ⟨_, rfl⟩
  obtain ⟨B, hB⟩ : ∃ B, B = (taS ⟨s.ar, s.pl, [y]⟩ g).bf := ⟨_, rfl⟩
  obtain ⟨C, hC⟩ : ∃ C, C = (taS s g).bf := ⟨_, rfl⟩
  have lA : (A.length : Int) = (s.ar.el.length : Int) * s.ar.el.length * 64 := by rw [hA]; exact ta_blen
  have lB : (B.length : Int) = (s.ar.el.length : Int) * s.ar.el.length * 64 := by rw [hB]; exact ta_blen
  have lC : (C.length : Int) = (s.ar.el.length : Int) * s.ar.el.length * 64 := by rw [hC]; exact ta_blen
  have hadd : ∀ (j : Nat) (u v w : Nat), A[j]? = some u → B[j]? = some v → C[j]? = some w → vI w = vI u + vI v := by
    intro j u v w h1 h2 h3
    rw [hA] at h1
    rw [hB] at h2
    rw [hC] at h3
    have k1 : ((mxB ⟨s.ar, s.pl, [x]⟩ (prL s.ar.el.length)).map FloatKind.f32.nearest)[j]? = some u := h1
    have k2 : ((mxB ⟨s.ar, s.pl, [y]⟩ (prL s.ar.el.length)).map FloatKind.f32.nearest)[j]? = some v := h2
    have k3 : ((mxB s (prL s.ar.el.length)).map FloatKind.f32.nearest)[j]? = some w := h3
    rw [List.getElem?_map] at k1 k2 k3
    obtain ⟨a, ha, rfl⟩ := Option.map_eq_some_iff.1 k1
    obtain ⟨b, hb', rfl⟩ := Option.map_eq_some_iff.1 k2
    obtain ⟨c, hc, rfl⟩ := Option.map_eq_some_iff.1 k3
    obtain ⟨a1, a2⟩ := mx_in5 hx a (List.mem_of_getElem? ha)
    obtain ⟨b1, b2⟩ := mx_in5 hy b (List.mem_of_getElem? hb')
    obtain ⟨c1, c2⟩ := mx_in5 hb c (List.mem_of_getElem? hc)
    rw [vI_near a1 a2, vI_near b1 b2, vI_near c1 c2]
    exact mxB_add hf _ j a b c ha hb' hc
  have eA : taS ⟨s.ar, s.pl, [x]⟩ g = ⟨s.ar, (s.ar.el.length : Int), A, g⟩ := by rw [hA]; rfl
  have eB : taS ⟨s.ar, s.pl, [y]⟩ g = ⟨s.ar, (s.ar.el.length : Int), B, g⟩ := by rw [hB]; rfl
  have eC : taS s g = ⟨s.ar, (s.ar.el.length : Int), C, g⟩ := by rw [hC]; rfl
  rw [eA] at ox hcl
  rw [eB] at oy
  rw [eA, eB, eC]
  refine mg_pair (n := clN ⟨s.ar, (s.ar.el.length : Int), A, g⟩) hcl (fun c => (vlA ⟨s.ar, (s.ar.el.length : Int), A, g⟩ (c : Int) [] (evL ⟨s.ar, (s.ar.el.length : Int), A, g⟩)).1) (fun c => (vlA ⟨s.ar, (s.ar.el.length : Int), B, g⟩ (c : Int) [] (evL ⟨s.ar, (s.ar.el.length : Int), B, g⟩)).1) (fun c => (vlA ⟨s.ar, (s.ar.el.length : Int), C, g⟩ (c : Int) [] (evL ⟨s.ar, (s.ar.el.length : Int), C, g⟩)).1) (fun k _ => ?_) (fun k _ => ?_) (fun k _ => ?_)
  · have := vs_in ox (k : Int) (ev_ok ox).2
    omega
  · have := vs_in oy (k : Int) (ev_ok oy).2
    omega
  · exact vlA_lin (ar := s.ar) (ne := (s.ar.el.length : Int)) (g := g) (by omega) (by omega) hadd (k : Int) (evL ⟨s.ar, (s.ar.el.length : Int), A, g⟩)
end Go.Proofs.YtphlaicnmmglhaaGreat.Am.M
-- mini
namespace Go.Proofs.YtphlaicnmmglhaaGreat.Am.M
open Go

theorem md_ext5 {a b : Md} (h : [a.w, a.m, a.k, a.t] = [b.w, b.m, b.k, b.t]) : a = b := by
  cases a; cases b; simp only [List.cons.injEq, and_true] at h; obtain ⟨rfl, rfl, rfl, rfl⟩ := h; rfl
theorem mg_one {n : Nat} (hn : n ≤ 1600) (A : Nat → Int × Int) (hA : ∀ k, k < n → (-10000000 ≤ (A k).1 ∧ (A k).1 ≤ 10000000) ∧ -10000000 ≤ (A k).2 ∧ (A k).2 ≤ 10000000) :
    mgR [(List.range n).map fun k => czP (A k)] = ((List.range n).map fun k => czP (A k), 0) := by
  obtain ⟨X, hX⟩ : ∃ X, X = (List.range n).map fun k => czP (A k) := ⟨_, rfl⟩
  have lX : X.length = n := by rw [hX, List.length_map, List.length_range]
  have aX : ∀ k, k < n → atZ X k = czP (A k) := fun k hk => by unfold atZ; rw [hX, List.getD_eq_getElem?_getD, List.getElem?_map, List.getElem?_range hk]; rfl
  rw [← hX]
  have hd : hdN [X] = n := lX
  have e1 : (decide (([X] : List (List (Nat × Nat))).length = 0) || [X].any (neqB [X])) = false := by
    simp [neqB, hd, lX]
  have hc : ∀ k, k < n → peS (colZ [X] k) = 0 ∧ smS (colZ [X] k) = A k := fun k hk => by
    have ec : colZ [X] k = [czP (A k)] := by
      show [atZ _ k] = _
      rw [aX k hk]
    obtain ⟨⟨v1, v2⟩, v3, v4⟩ := hA k hk
    obtain ⟨p1, p2⟩ := cz_ok (x := A k) (by omega) (by omega)
    rw [ec]
    refine ⟨?_, ?_⟩
    · unfold peS
      rw [if_neg (fun q => q p1)]; rfl
    · show smF (0, 0) _ = _
      unfold smF
      rw [p2]
      simp
  have em : ∀ m k, k + m ≤ n → mgS [X] k m = 0 := by
    intro m
    induction m with
    | zero => intro k _; rfl
    | succ m ih =>
      intro k hk
      unfold mgS
      rw [if_neg (fun q => q (hc k (by omega)).1)]
      exact ih (k + 1) (by omega)
  unfold mgR
  rw [if_neg (by rw [e1]; decide), hd, if_neg (by simp; omega), if_neg (fun q => q (em _ 0 (by omega)))]
  congr 1
  rw [hX]
  unfold smL
  rw [List.map_map]
  refine List.map_congr_left fun k hk => ?_
  show czP (smS _) = czP _
  rw [← hX, (hc k (List.mem_range.1 hk)).2]
def alS (s : Spc) (x : Flw) : Spc := ⟨s.ar, s.pl, [x]⟩
def imE (s : Spc) (g : Grd) (x : Flw) : List (Nat × Nat) := (imgR (taS (alS s x) g)).1
theorem img_sum {s : Spc} {g : Grd} (h0 : (ckSpc s).2 = 0) (h1 : 1 ≤ s.fl.length) (h2 : s.fl.length ≤ 2) (hb : (prL s.ar.el.length).any (bigP s) = false) (ha : ∀ x ∈ s.fl, (prL s.ar.el.length).any (bigP (alS s x)) = false) (hc : (ckT (taS s g)).2 = 0) :
    mgR (s.fl.map (imE s g)) = ((imgR (taS s g)).1, 0) := by
  have hg : gtE s.ar g = 0 := by rw [← ckT_ta h0 hb]; exact hc
  have hcx : ∀ x ∈ s.fl, (ckT (taS (alS s x) g)).2 = 0 := fun x hx => by rw [ckT_ta (s := alS s x) (spc_one h0 hx) (ha x hx)]; exact hg
  match hf : s.fl with
  | [] => rw [hf] at h1; simp at h1
  | [x] =>
    have e : alS s x = s := by unfold alS; rw [← hf]
    show mgR [imE s g x] = _
    unfold imE
    rw [e, img_ok5 hc]
    have ok := ckT_ok hc
    exact mg_one (cl_le ok) (fun c => (vlA (taS s g) (c : Int) [] (evL (taS s g))).1) (fun k _ => by have := vs_in ok (k : Int) (ev_ok ok).2; omega)
  | [x, y] =>
    exact img_add hf hb (ha x (by rw [hf]; simp)) (ha y (by rw [hf]; simp)) (hcx x (by rw [hf]; simp)) (hcx y (by rw [hf]; simp)) hc
  | x :: y :: z :: l => rw [hf] at h2; simp at h2
theorem sli_fl5 {s : Spc} (h : sliB s = true) (h2 : s.fl.length ≤ 10) : s.fl.length ≤ 2 := by
  simp [sliB] at h
  omega
theorem ex_smp : smpR oneS.ar (0, 400) (0, 0) = (2, 0) := by decide +kernel
theorem mx_ok5 {s : Spc} (h0 : (ckSpc s).2 = 0) : (mxR s).2 = 8 ∨ ((prL s.ar.el.length).any (bigP s) = false ∧ mxR s = (((s.ar.el.length : Int), mxB s (prL s.ar.el.length)), 0)) := by
  unfold mxR
  rw [if_neg (fun q => q h0)]
  by_cases hb : (prL s.ar.el.length).any (bigP s) = true
  · rw [if_pos hb]; exact .inl rfl
  · rw [if_neg hb]
    exact .inr ⟨by simpa using hb, rfl⟩
set_option maxRecDepth 100000 in
theorem benched_p  : PC Tryz.prog 80 [] (.v (.bool (true))) := by
 refine pc_of_awpN Tryz.func80 rfl Tryz.ntmps80 (rs := [.tmp 0]) Tryz.results80 (by simp) fun w0 hmine hrnd hpn => ?_
 refine awp_seq ?_
 refine awp_region 1 mixed (by kernel_rfl) ?_
 refine rg_q (q_a rfl) ?_
 refine rs (awp_region 6 mixed (by kernel_rfl) ?_)
 refine rg_q (q_call en151 .nil rfl (one_p)) ?_
 refine rg_q (q_buildA (cs := [_, _]) ar63 zr63 rfl .nil trivial rfl) ?_
 refine rg_q (q_call en150 (.cons rfl (.cons rfl .nil)) rfl ((by have h := traceOfS_p oneS (0, 0); rw [ex_tc] at h; exact h))) ?_
 refine rg_q (q_move (x := .d (.tup _)) rfl) (rg_q (q_extract rfl rfl) (rg_q (q_extract rfl rfl) ?_))
 refine rg_nil ?_
 refine aops_alloc zr236 rfl rfl rfl ?_
 refine aops_store (cs' := exB.map fd) sz236 rfl rfl (by exact .inr ⟨_, rfl⟩) rfl rfl (Nat.le_of_ble_eq_true rfl) rfl ?_
 refine aops_q rfl (q_a rfl) ?_
 refine aops_nil ?_
 change Awp _ _ _ _ _
 refine awp_seq ?_
 refine awp_region 10 mixed (by kernel_rfl) ?_
 refine rg_q (q_call en151 .nil rfl (one_p)) ?_
 refine rg_q (q_fieldA fd130_0 sz28 rfl rfl rfl) ?_
 refine rg_q (q_build (cs := [_, _]) pl33 zr33 rfl (.cons rfl (by exact .inl rfl) (.cons rfl (by exact .inl rfl) .nil)) ⟨⟨rfl, by decide⟩, ⟨rfl, by decide⟩, trivial⟩ rfl) ?_
 refine rg_q (q_buildA (cs := [_, _]) ar63 zr63 rfl .nil trivial rfl) ?_
 refine rg_q (q_call en152 (.cons rfl (.cons rfl (.cons rfl .nil))) rfl ((by have h := sampleOf_p oneS.ar (0, 400) (0, 0); rw [ex_smp] at h; exact h))) ?_
 refine rg_q (q_move (x := .d (.tup _)) rfl) (rg_q (q_extract rfl rfl) (rg_q (q_extract rfl rfl) (rg_q (q_a rfl) (rg_q (q_a rfl) ?_))))
 refine rs (awp_region 16 mixed (by kernel_rfl) ?_)
 refine rg_q (q_m rfl) (rg_q (q_eql rfl rfl) (rg_q (q_m rfl) ?_))
 refine rg_g rfl rfl (fun hG => (q_load_refA sz236 rfl rfl rfl rfl)) ?_
 refine rg_g rfl rfl (fun hG => (q_buildA ar236 zr236 rfl (.cons rfl (by exact .inl rfl) (.cons rfl (by exact .inl rfl) .nil)) ⟨⟨rfl, by decide⟩, ⟨rfl, by decide⟩, trivial⟩ rfl)) ?_
 refine rg_g rfl rfl (fun hG => (q_call en153 (.cons rfl (.cons rfl .nil)) rfl (sameTrace_p exB exB rfl rfl))) ?_
 refine rg_pick rfl rfl rfl rfl rfl rfl ?_
 refine rg_q (q_m rfl) ?_
 refine rg_g rfl rfl (fun hG => (q_m rfl)) ?_
 refine rg_g rfl rfl (fun hG => (q_eql rfl rfl)) ?_
 refine rg_pick rfl rfl rfl rfl rfl rfl ?_
 refine rg_q (q_m rfl) ?_
 refine rg_g rfl rfl (fun hG => (q_m rfl)) ?_
 refine rg_g rfl rfl (fun hG => (q_eql rfl rfl)) ?_
 refine rg_pick rfl rfl rfl rfl rfl rfl ?_
 refine rg_q (q_a rfl) ?_
 refine rn ?_
 change Awp _ _ _ _ _
 refine awp_ret ?_
 refine ⟨_, (.cons (.tmp (by exact .d _)) .nil), ?_⟩
 simp [retD]
set_option maxHeartbeats 4000000 in
set_option maxRecDepth 100000 in
theorem topPoints_p (s : Spc) (g : Grd) : PC Tryz.prog 17 [.agg (spcC s), .agg (grdC g)] (.v (.bool (true))) := by
  refine pc_of_awpN Tryz.func17 rfl Tryz.ntmps17 (rs := [.tmp 4]) Tryz.results17 (by simp) fun w0 hmine hrnd hpn => ?_
  refine awp_seq ?_
  refine awp_region 3 mixed (by kernel_rfl) ?_
  refine rg_q (q_box rfl (by exact .inr ⟨_, rfl⟩)) ?_
  refine rg_q (q_box rfl (by exact .inr ⟨_, rfl⟩)) ?_
  refine rg_q (q_a rfl) ?_
  refine rn ?_
  change Awp _ _ _ _ _
  refine awp_seq ?_
  refine awp_seq ?_
  refine awp_region 2 mixed (by kernel_rfl) ?_
  refine rg_q (q_call en80 .nil rfl (benched_p)) ?_
  refine rg_q (q_not rfl) ?_
  refine rn ?_
  change Awp _ _ _ _ _
  refine awp_cond rfl (fun hc1 => ?_) (fun hc1 => ?_)
  ·
    simp at hc1
  ·
    (try simp only [nb, ne_eq] at hc1)
    refine awp_skip ?_
    change Awp _ _ _ _ _
    refine awp_seq ?_
    refine awp_seq ?_
    refine awp_region 10 mixed (by kernel_rfl) ?_
    refine rg_q (q_loadA sz130 rfl rfl rfl) ?_
    refine rg_q (q_loadA (ds := [_, _, _, _, _]) sz35 rfl rfl rfl) ?_
    refine rg_q (q_call en73 (.cons rfl (.cons rfl .nil)) rfl (benchSmall_p s g)) ?_
    refine rg_q (q_not rfl) (rg_q (q_m rfl) ?_)
    refine rg_g rfl rfl (fun hG => (q_fieldAddr fld130_2 rfl)) ?_
    refine rg_g rfl rfl (fun hG => (q_load sz128 rfl rfl)) ?_
    refine rg_g rfl rfl (fun hG => (q_len isl128 rfl (by exact len_map _ _))) ?_
    refine rg_g rfl rfl (fun hG => (q_eql rfl rfl)) ?_
    refine rg_pick rfl rfl rfl rfl rfl rfl ?_
    refine rn ?_
    change Awp _ _ _ _ _
    refine awp_cond rfl (fun hc3 => ?_) (fun hc3 => ?_)
    ·
      (try simp only [nb, ne_eq] at hc3)
      refine awp_seq ?_
      refine awp_region 1 mixed (by kernel_rfl) ?_
      refine rg_q (q_a rfl) ?_
      refine rn ?_
      change Awp _ _ _ _ _
      refine awp_ret ?_
      refine ⟨_, (.cons (.tmp (by exact .d _)) .nil), ?_⟩
      rfl
    ·
      (try simp only [nb, ne_eq] at hc3)
      obtain ⟨hbs, hl1⟩ := hc3
      unfold bsB at hbs
      simp only [Bool.and_eq_true, decide_eq_true_eq] at hbs
      obtain ⟨⟨⟨⟨hsl, h0⟩, _⟩, _⟩, _⟩ := hbs
      obtain ⟨l1, l2, l3⟩ := sli_le hsl
      have hsp := spc_ok h0
      have hok0 := hsp.ar
      have hn1 := hok0.n1
      have hn2 := hok0.n2
      have hn3 := sli_few5 hsl hn2
      have hf2 := sli_fl5 hsl hsp.f1
      have hf1 : 1 ≤ s.fl.length := by omega
      refine awp_skip ?_
      change Awp _ _ _ _ _
      refine awp_seq ?_
      refine awp_region 6 mixed (by kernel_rfl) ?_
      refine rg_q (q_loadA sz130 rfl rfl rfl) ?_
      refine rg_q (q_call en75 (.cons rfl .nil) rfl (copySpc_p s (by omega) (by omega) (by omega))) ?_
      refine rg_q (q_call en78 (.cons rfl .nil) rfl (matrix5_p s)) ?_
      refine rg_q (q_move (x := .d (.tup _)) rfl) (rg_q (q_extract rfl rfl) (rg_q (q_extract rfl rfl) ?_))
      refine rg_nil ?_
      refine aops_alloc zr31 rfl rfl rfl ?_
      refine aops_store sz31 rfl rfl (by exact .inr ⟨_, rfl⟩) rfl rfl (by decide) rfl ?_
      refine aops_q rfl (q_a rfl) ?_
      refine aops_nil ?_
      change Awp _ _ _ _ _
      refine awp_seq ?_
      refine awp_seq ?_
      refine awp_region 2 mixed (by kernel_rfl) ?_
      refine rg_q (q_m rfl) (rg_q (q_neq rfl rfl) ?_)
      refine rn ?_
      change Awp _ _ _ _ _
      refine awp_cond rfl (fun hc6 => ?_) (fun hc6 => ?_)
      ·
        (try simp only [nb, ne_eq] at hc6)
        have hm8 : (mxR s).2 = 8 := by
          rcases mx_ok5 h0 with q | q
          · exact q
          · rw [q.2] at hc6; exact absurd rfl hc6
        rw [hm8]
        refine awp_seq ?_
        refine awp_region 3 mixed (by kernel_rfl) ?_
        refine rg_q (q_m rfl) (rg_q (q_eql rfl rfl) (rg_q (q_a rfl) ?_))
        refine rn ?_
        change Awp _ _ _ _ _
        refine awp_ret ?_
        refine ⟨_, (.cons (.tmp (by exact .d _)) .nil), ?_⟩
        rfl
      ·
        (try simp only [nb, ne_eq] at hc6)
        obtain ⟨hb, hmx⟩ : (prL s.ar.el.length).any (bigP s) = false ∧ mxR s = (((s.ar.el.length : Int), mxB s (prL s.ar.el.length)), 0) := by
          rcases mx_ok5 h0 with q | q
          · rw [q] at hc6; exact absurd hc6 (by decide)
          · exact q
        have hbx : mxC ((s.ar.el.length : Int), mxB s (prL s.ar.el.length)) = mtxC (taS s g).ne (taS s g).bf := mx_box5 s g
        rw [hmx, hbx]
        have hgt := ckT_ta (g := g) h0 hb
        have hgn := gtE_ne s.ar g
        refine awp_skip ?_
        change Awp _ _ _ _ _
        refine awp_seq ?_
        refine awp_seq ?_
        refine awp_region 7 mixed (by kernel_rfl) ?_
        refine rg_q (q_fieldAddr fld130_0 rfl) (rg_q (q_fieldAddr fld28_1 rfl) ?_)
        refine rg_q (q_loadA (ds := [_, _, _, _]) sz24 rfl rfl rfl) ?_
        refine rg_q (q_fieldAddr fld130_0 rfl) (rg_q (q_fieldAddr fld28_2 rfl) ?_)
        refine rg_q (q_loadA (ds := [_, _, _, _]) sz24 rfl rfl rfl) ?_
        refine rg_q (q_eqlI (xs := [_, _, _, _]) (ys := [_, _, _, _]) eqi24 rfl rfl rfl rfl) ?_
        refine rn ?_
        change Awp _ _ _ _ _
        refine awp_cond rfl (fun hc8 => ?_) (fun hc8 => ?_)
        ·
          (try simp only [nb, ne_eq] at hc8)
          refine awp_seq ?_
          refine awp_region 8 mixed (by kernel_rfl) ?_
          refine rg_q (q_load_refA (ds := [_, _]) sz31 rfl rfl rfl rfl) ?_
          refine rg_q (q_call en62 (.cons rfl .nil) rfl (copyMatrix5_p _ _ (ta_len5 (s := s) (g := g) hn3))) ?_
          refine rg_q (q_call en81 (.cons rfl (.cons rfl .nil)) rfl (tunlike_p s.ar.el.length (taS s g).bf (by omega) (by omega) ta_blen (ta_wh hb) (ta_sym hb (md_ext5 hc8)))) ?_
          refine rg_q (q_move (x := .d (.tup _)) rfl) (rg_q (q_extract rfl rfl) (rg_q (q_extract rfl rfl) (rg_q (q_a rfl) (rg_q (q_a rfl) ?_))))
          refine rs (awp_region 7 mixed (by kernel_rfl) ?_)
          refine rg_q (q_m rfl) (rg_q (q_neq rfl rfl) (rg_q (q_m rfl) ?_))
          refine rg_g rfl rfl (fun hG => (q_m rfl)) ?_
          refine rg_g rfl rfl (fun hG => (q_len_nil isl140 rfl)) ?_
          refine rg_g rfl rfl (fun hG => (q_neq rfl rfl)) ?_
          refine rg_pick rfl rfl rfl rfl rfl rfl ?_
          refine rn ?_
          change Awp _ _ _ _ _
          refine awp_cond rfl (fun hc10 => ?_) (fun hc10 => ?_)
          ·
            simp at hc10
          ·
            (try simp only [nb, ne_eq] at hc10)
            refine awp_skip ?_
            change Awp _ _ _ _ _
            refine awp_seq ?_
            refine awp_region 12 mixed (by kernel_rfl) ?_
            refine rg_q (q_fieldAddr fld130_0 rfl) ?_
            refine rg_q (q_loadA (ds := [_, _, _, _, _, _, _, _, _, _, _]) sz28 rfl rfl rfl) ?_
            refine rg_q (q_call en79 (.cons rfl .nil) rfl (copyArr_p s.ar (by omega))) ?_
            refine rg_q (q_load_refA (ds := [_, _]) sz31 rfl rfl rfl rfl) ?_
            refine rg_q (q_loadA (ds := [_, _, _, _, _]) sz35 rfl rfl rfl) ?_
            refine rg_q (q_build pl37 zr37 rfl (.cons rfl (by exact .inr ⟨_, rfl⟩) (.cons rfl (by exact .inr ⟨_, rfl⟩) (.cons rfl (by exact .inr ⟨_, rfl⟩) .nil))) ⟨⟨rfl, by decide⟩, ⟨rfl, by decide⟩, ⟨rfl, by decide⟩, trivial⟩ rfl) ?_
            refine rg_q (q_call en37 (.cons rfl .nil) rfl (image5_p (taS s g))) ?_
            refine rg_q (q_move (x := .d (.tup _)) rfl) (rg_q (q_extract rfl rfl) (rg_q (q_extract rfl rfl) (rg_q (q_assign (x := .d (.sl _ _)) rfl) (rg_q (q_a rfl) ?_))))
            refine rn ?_
            change Awp _ _ _ _ _
            refine awp_seq ?_
            refine awp_seq ?_
            refine awp_region 2 mixed (by kernel_rfl) ?_
            refine rg_q (q_m rfl) (rg_q (q_neq rfl rfl) ?_)
            refine rn ?_
            change Awp _ _ _ _ _
            refine awp_cond rfl (fun hc13 => ?_) (fun hc13 => ?_)
            ·
              (try simp only [nb, ne_eq] at hc13)
              have hzi : imgR (taS s g) = ([], gtE s.ar g) := by
                unfold imgR
                by_cases q : (ckT (taS s g)).2 ≠ 0
                · rw [if_pos q, hgt]
                · exfalso
                  rw [img_ok5 (Decidable.not_not.1 q)] at hc13
                  exact hc13 rfl
              rw [hzi]
              refine awp_seq ?_
              refine awp_region 8 mixed (by kernel_rfl) ?_
              refine rg_q (q_m rfl) (rg_q (q_neq rfl rfl) (rg_q (q_m rfl) ?_))
              refine rg_g rfl rfl (fun hG => (q_move (x := .d (.sl _ _)) rfl)) ?_
              refine rg_g rfl rfl (fun hG => (q_len isl72 rfl (by exact len_map _ _))) ?_
              refine rg_g rfl rfl (fun hG => (q_eql rfl rfl)) ?_
              refine rg_pick rfl rfl rfl rfl rfl rfl ?_
              refine rg_q (q_a rfl) ?_
              refine rn ?_
              change Awp _ _ _ _ _
              refine awp_ret ?_
              refine ⟨_, (.cons (.tmp (by exact .d _)) .nil), ?_⟩
              simp [retD, hgn]
            ·
              (try simp only [nb, ne_eq] at hc13)
              have hck : (ckT (taS s g)).2 = 0 := by
                by_cases q : (ckT (taS s g)).2 ≠ 0
                · exfalso
                  unfold imgR at hc13
                  rw [if_pos q] at hc13
                  exact q hc13
                · exact Decidable.not_not.1 q
              refine awp_skip ?_
              change Awp _ _ _ _ _
              refine awp_seq ?_
              refine awp_region 1 mixed (by kernel_rfl) ?_
              refine rg_q (q_assign_nil) ?_
              refine rn ?_
              change Awp _ _ _ _ _
              refine Awp.le (le_own (k := 11) (e := 72) (sz := 1) rfl rfl) ?_
              refine awp_seq ?_
              refine awp_seq ?_
              refine awp_region 1 mixed (by kernel_rfl) ?_
              refine rg_q (q_a rfl) ?_
              refine rn ?_
              change Awp _ _ _ _ _
              refine awp_block ?_
              refine awp_loopH [4, 11, 12, 13, 14, 15, 16, 17, 81, 82, 83, 84, 85, 86, 87, 88, 89, 90, 91, 92, 93, 94, 95, 96, 97, 98, 99, 100, 101, 102, 103, 104, 105, 106, 107, 108, 109, 110, 111, 112, 113, 114, 115, 116, 117, 118, 119, 120, 121] [11] (α := Nat) (fun k => [(12, T.i (k : Int)), (11, .rs 11)]) (fun k => [(11, .row 72 1 (((s.fl.take k).map (imE s g)).map imC))]) (fun k => k ≤ s.fl.length ∧ ∀ x ∈ s.fl.take k, (prL s.ar.el.length).any (bigP (alS s x)) = false) (fun k => s.fl.length - k) 0 ⟨Nat.zero_le _, fun x q => by simp at q⟩ ?_ ?_
              · exact le_head (ms := [11]) (by repeat (exact Out.refl _)) ⟨(by rfl), (by rfl), trivial⟩ ⟨(by rfl), trivial⟩ rfl rfl rfl rfl
              ·
                intro k ⟨hk, hal⟩
                have htl : (s.fl.take k).length ≤ k := by rw [List.length_take]; omega
                refine awp_seq ?_
                refine awp_seq ?_
                refine awp_region 5 mixed (by kernel_rfl) ?_
                refine rg_q (q_m rfl) (rg_q (q_fieldAddr fld130_2 rfl) (rg_q (q_load sz128 rfl rfl) ?_))
                refine rg_q (q_len isl128 rfl (by exact len_map _ _)) ?_
                refine rg_q (q_lss rfl rfl) ?_
                refine rn ?_
                change Awp _ _ _ _ _
                refine awp_len (t := 83) rfl (fun hl83 => ?_)
                (try simp only [List.length_map] at hl83)
                refine awp_cond rfl (fun hc17 => ?_) (fun hc17 => ?_)
                ·
                  (try simp only [nb, ne_eq] at hc17)
                  have hlt : k < s.fl.length := by omega
                  obtain ⟨x, hx⟩ : ∃ x, s.fl[k]? = some x := ⟨_, List.getElem?_eq_getElem hlt⟩
                  have hxm := List.mem_of_getElem? hx
                  have h0x : (ckSpc (alS s x)).2 = 0 := spc_one h0 hxm
                  have hsk : ((s.fl.take (k + 1)).map (imE s g)).map imC = ((s.fl.take k).map (imE s g)).map imC ++ [imC (imE s g x)] := by rw [takeSnoc hx, List.map_append, List.map_append]; rfl
                  refine awp_skip ?_
                  change Awp _ _ _ _ _
                  refine awp_seq ?_
                  refine awp_block ?_
                  refine awp_seq ?_
                  refine awp_region 2 mixed (by kernel_rfl) ?_
                  refine rg_q (q_loadA sz130 rfl rfl rfl) ?_
                  refine rg_q (q_call en75 (.cons rfl .nil) rfl (copySpc_p s (by omega) (by omega) (by omega))) ?_
                  refine rg_nil ?_
                  refine aops_alloc zr130 rfl rfl rfl ?_
                  refine aops_store sz130 rfl rfl (by exact .inr ⟨_, rfl⟩) rfl rfl (by decide) rfl ?_
                  refine aops_nil ?_
                  change Awp _ _ _ _ _
                  refine awp_seq ?_
                  refine awp_region 7 mixed (by kernel_rfl) ?_
                  refine rg_q (q_fieldAddr fld130_2 rfl) (rg_q (q_load sz128 rfl rfl) (rg_q (q_m rfl) ?_))
                  refine rg_q (q_indexAddr sl128 rfl rfl (by omega) (map_at (k := k) (by omega) hx)) ?_
                  refine rg_q (q_loadA (ds := [_, _, _, _, _, _, _, _]) sz135 rfl rfl rfl) ?_
                  refine rg_q (q_buildSlice sl128 zr135 rfl rfl (by decide) (.cons rfl (by exact .inr ⟨_, rfl⟩) .nil) ⟨rfl, rfl, trivial⟩ rfl (by decide) rfl) ?_
                  refine rg_q (q_fieldAddr_ref fld130_2 rfl) ?_
                  refine rg_nil ?_
                  refine aops_store sz128 rfl rfl (by exact .inl rfl) rfl rfl (by exact Nat.le_of_ble_eq_true rfl) rfl ?_
                  refine aops_nil ?_
                  change Awp _ _ _ _ _
                  refine awp_seq ?_
                  refine awp_region 5 mixed (by kernel_rfl) ?_
                  refine rg_q (q_load_refA sz130 rfl rfl rfl rfl) ?_
                  refine rg_q (q_call en78 (.cons rfl .nil) rfl (matrix5_p (alS s x))) ?_
                  refine rg_q (q_move (x := .d (.tup _)) rfl) (rg_q (q_extract rfl rfl) (rg_q (q_extract rfl rfl) ?_))
                  refine rg_nil ?_
                  refine aops_alloc zr31 rfl rfl rfl ?_
                  refine aops_store sz31 rfl rfl (by exact .inr ⟨_, rfl⟩) rfl rfl (by decide) rfl ?_
                  refine aops_q rfl (q_a rfl) ?_
                  refine aops_nil ?_
                  change Awp _ _ _ _ _
                  refine awp_seq ?_
                  refine awp_seq ?_
                  refine awp_region 2 mixed (by kernel_rfl) ?_
                  refine rg_q (q_m rfl) (rg_q (q_neq rfl rfl) ?_)
                  refine rn ?_
                  change Awp _ _ _ _ _
                  refine awp_cond rfl (fun hc22 => ?_) (fun hc22 => ?_)
                  ·
                    (try simp only [nb, ne_eq] at hc22)
                    have hm8 : (mxR (alS s x)).2 = 8 := by
                      rcases mx_ok5 h0x with q | q
                      · exact q
                      · rw [q.2] at hc22; exact absurd rfl hc22
                    rw [hm8]
                    refine awp_seq ?_
                    refine awp_region 3 mixed (by kernel_rfl) ?_
                    refine rg_q (q_m rfl) (rg_q (q_eql rfl rfl) (rg_q (q_a rfl) ?_))
                    refine rn ?_
                    change Awp _ _ _ _ _
                    refine awp_ret ?_
                    refine ⟨_, (.cons (.tmp (by exact .d _)) .nil), ?_⟩
                    rfl
                  ·
                    (try simp only [nb, ne_eq] at hc22)
                    obtain ⟨hbx, hmxx⟩ : (prL s.ar.el.length).any (bigP (alS s x)) = false ∧ mxR (alS s x) = (((s.ar.el.length : Int), mxB (alS s x) (prL s.ar.el.length)), 0) := by
                      rcases mx_ok5 h0x with q | q
                      · rw [q] at hc22; exact absurd hc22 (by decide)
                      · exact q
                    have hbxx : mxC ((s.ar.el.length : Int), mxB (alS s x) (prL s.ar.el.length)) = mtxC (taS (alS s x) g).ne (taS (alS s x) g).bf := mx_box5 (alS s x) g
                    rw [hmxx, hbxx]
                    have hckx : (ckT (taS (alS s x) g)).2 = 0 := by rw [ckT_ta (s := alS s x) h0x hbx]; rw [hgt] at hck; exact hck
                    have hix : (imgR (taS (alS s x) g)).2 = 0 := by rw [img_ok5 hckx]
                    have hal2 : ∀ y ∈ s.fl.take (k + 1), (prL s.ar.el.length).any (bigP (alS s y)) = false := fun y hy => by
                      rw [takeSnoc hx] at hy
                      rcases List.mem_append.1 hy with q | q
                      · exact hal y q
                      · rw [List.mem_singleton.1 q]; exact hbx
                    refine awp_skip ?_
                    change Awp _ _ _ _ _
                    refine awp_seq ?_
                    refine awp_region 12 mixed (by kernel_rfl) ?_
                    refine rg_q (q_fieldAddr fld130_0 rfl) ?_
                    refine rg_q (q_loadA (ds := [_, _, _, _, _, _, _, _, _, _, _]) sz28 rfl rfl rfl) ?_
                    refine rg_q (q_call en79 (.cons rfl .nil) rfl (copyArr_p s.ar (by omega))) ?_
                    refine rg_q (q_load_refA (ds := [_, _]) sz31 rfl rfl rfl rfl) ?_
                    refine rg_q (q_loadA (ds := [_, _, _, _, _]) sz35 rfl rfl rfl) ?_
                    refine rg_q (q_build pl37 zr37 rfl (.cons rfl (by exact .inr ⟨_, rfl⟩) (.cons rfl (by exact .inr ⟨_, rfl⟩) (.cons rfl (by exact .inr ⟨_, rfl⟩) .nil))) ⟨⟨rfl, by decide⟩, ⟨rfl, by decide⟩, ⟨rfl, by decide⟩, trivial⟩ rfl) ?_
                    refine rg_q (q_call en37 (.cons rfl .nil) rfl (image5_p (taS (alS s x) g))) ?_
                    refine rg_q (q_move (x := .d (.tup _)) rfl) (rg_q (q_extract rfl rfl) (rg_q (q_extract rfl rfl) (rg_q (q_assign (x := .d (.sl _ _)) rfl) (rg_q (q_a rfl) ?_))))
                    refine rn ?_
                    change Awp _ _ _ _ _
                    refine awp_seq ?_
                    refine awp_seq ?_
                    refine awp_region 2 mixed (by kernel_rfl) ?_
                    refine rg_q (q_m rfl) (rg_q (q_neq rfl rfl) ?_)
                    refine rn ?_
                    change Awp _ _ _ _ _
                    refine awp_cond rfl (fun hc25 => ?_) (fun hc25 => ?_)
                    ·
                      exact absurd hix (of_decide_eq_true hc25)
                    ·
                      (try simp only [nb, ne_eq] at hc25)
                      refine awp_skip ?_
                      change Awp _ _ _ _ _
                      refine awp_region 3 mixed (by kernel_rfl) ?_
                      refine rg_q (q_move (x := .rs _) rfl) (rg_q (q_move (x := .d (.sl _ _)) rfl) ?_)
                      refine rg_q (q_buildSlice sl105 zr72 rfl rfl (by decide) (.cons rfl (by exact .inl rfl) .nil) ⟨rfl, rfl, trivial⟩ rfl (by decide) rfl) ?_
                      refine rg_nil ?_
                      refine aops_append sl105 zr72 by72 rfl (by decide) rfl rfl rfl rfl (by (try simp only [List.length_map, List.length_append, List.length_cons, List.length_nil]); omega) (by (try simp only [List.length_map, List.length_append, List.length_cons, List.length_nil]); omega) rfl rfl ?_
                      refine aops_q rfl (q_assign (x := .rs _) rfl) ?_
                      refine aops_nil ?_
                      change Awp _ _ _ _ _
                      refine awp_region 3 mixed (by kernel_rfl) ?_
                      refine rg_q (q_m rfl) ?_
                      refine rg_q (q_add rfl rfl (In64.mk (by omega) (by omega))) ?_
                      refine rg_q (q_a rfl) ?_
                      refine rn ?_
                      refine ⟨k + 1, ⟨by omega, hal2⟩, by omega, ?_⟩
                      exact le_head (ms := [11]) (by repeat (first | exact Out.head rfl rfl | (refine Out.put ?_ rfl) | (refine Out.site ?_ rfl) | (refine Out.killS ?_ rfl))) ⟨(by rfl), (by rfl), trivial⟩ ⟨(by ((show Site.row _ 1 _ = Site.row _ 1 _; rw [hsk]; rfl))), trivial⟩ rfl rfl rfl rfl
                ·
                  (try simp only [nb, ne_eq] at hc17)
                  have hkn : k = s.fl.length := by omega
                  subst hkn
                  rw [List.take_length] at *
                  have hsum := img_sum (g := g) h0 hf1 hf2 hb hal hck
                  refine awp_exit ?_
                  change Awp _ _ _ _ _
                  refine awp_seq ?_
                  refine Awp.le (le_freezeR (es := (s.fl.map (imE s g)).map imC) 11 11 (by show Site.row _ _ _ = _; rfl) rfl rfl rfl hmine) ?_
                  refine awp_region 7 mixed (by kernel_rfl) ?_
                  refine rg_q (q_move (x := .d (.sl _ _)) rfl) ?_
                  refine rg_q (q_call en60 (.cons rfl .nil) rfl ((by have q := mergedI_p (s.fl.map (imE s g)); rw [hsum] at q; exact q))) ?_
                  refine rg_q (q_move (x := .d (.tup _)) rfl) (rg_q (q_extract rfl rfl) (rg_q (q_extract rfl rfl) (rg_q (q_assign (x := .d (.sl _ _)) rfl) (rg_q (q_a rfl) ?_))))
                  refine rs (awp_region 8 mixed (by kernel_rfl) ?_)
                  refine rg_q (q_m rfl) (rg_q (q_eql rfl rfl) (rg_q (q_m rfl) ?_))
                  refine rg_g rfl rfl (fun hG => (q_move (x := .d (.sl _ _)) rfl)) ?_
                  refine rg_g rfl rfl (fun hG => (q_move (x := .d (.sl _ _)) rfl)) ?_
                  refine rg_g rfl rfl (fun hG => (q_call en38 (.cons rfl (.cons rfl .nil)) rfl (sameNums_p _ _))) ?_
                  refine rg_pick rfl rfl rfl rfl rfl rfl ?_
                  refine rg_q (q_a rfl) ?_
                  refine rn ?_
                  change Awp _ _ _ _ _
                  refine awp_ret ?_
                  refine ⟨_, (.cons (.tmp (by exact .d _)) .nil), ?_⟩
                  simp [retD]
        ·
          (try simp only [nb, ne_eq] at hc8)
          refine awp_skip ?_
          change Awp _ _ _ _ _
          refine awp_seq ?_
          refine awp_region 12 mixed (by kernel_rfl) ?_
          refine rg_q (q_fieldAddr fld130_0 rfl) ?_
          refine rg_q (q_loadA (ds := [_, _, _, _, _, _, _, _, _, _, _]) sz28 rfl rfl rfl) ?_
          refine rg_q (q_call en79 (.cons rfl .nil) rfl (copyArr_p s.ar (by omega))) ?_
          refine rg_q (q_load_refA (ds := [_, _]) sz31 rfl rfl rfl rfl) ?_
          refine rg_q (q_loadA (ds := [_, _, _, _, _]) sz35 rfl rfl rfl) ?_
          refine rg_q (q_build pl37 zr37 rfl (.cons rfl (by exact .inr ⟨_, rfl⟩) (.cons rfl (by exact .inr ⟨_, rfl⟩) (.cons rfl (by exact .inr ⟨_, rfl⟩) .nil))) ⟨⟨rfl, by decide⟩, ⟨rfl, by decide⟩, ⟨rfl, by decide⟩, trivial⟩ rfl) ?_
          refine rg_q (q_call en37 (.cons rfl .nil) rfl (image5_p (taS s g))) ?_
          refine rg_q (q_move (x := .d (.tup _)) rfl) (rg_q (q_extract rfl rfl) (rg_q (q_extract rfl rfl) (rg_q (q_assign (x := .d (.sl _ _)) rfl) (rg_q (q_a rfl) ?_))))
          refine rn ?_
          change Awp _ _ _ _ _
          refine awp_seq ?_
          refine awp_seq ?_
          refine awp_region 2 mixed (by kernel_rfl) ?_
          refine rg_q (q_m rfl) (rg_q (q_neq rfl rfl) ?_)
          refine rn ?_
          change Awp _ _ _ _ _
          refine awp_cond rfl (fun hc13 => ?_) (fun hc13 => ?_)
          ·
            (try simp only [nb, ne_eq] at hc13)
            have hzi : imgR (taS s g) = ([], gtE s.ar g) := by
              unfold imgR
              by_cases q : (ckT (taS s g)).2 ≠ 0
              · rw [if_pos q, hgt]
              · exfalso
                rw [img_ok5 (Decidable.not_not.1 q)] at hc13
                exact hc13 rfl
            rw [hzi]
            refine awp_seq ?_
            refine awp_region 8 mixed (by kernel_rfl) ?_
            refine rg_q (q_m rfl) (rg_q (q_neq rfl rfl) (rg_q (q_m rfl) ?_))
            refine rg_g rfl rfl (fun hG => (q_move (x := .d (.sl _ _)) rfl)) ?_
            refine rg_g rfl rfl (fun hG => (q_len isl72 rfl (by exact len_map _ _))) ?_
            refine rg_g rfl rfl (fun hG => (q_eql rfl rfl)) ?_
            refine rg_pick rfl rfl rfl rfl rfl rfl ?_
            refine rg_q (q_a rfl) ?_
            refine rn ?_
            change Awp _ _ _ _ _
            refine awp_ret ?_
            refine ⟨_, (.cons (.tmp (by exact .d _)) .nil), ?_⟩
            simp [retD, hgn]
          ·
            (try simp only [nb, ne_eq] at hc13)
            have hck : (ckT (taS s g)).2 = 0 := by
              by_cases q : (ckT (taS s g)).2 ≠ 0
              · exfalso
                unfold imgR at hc13
                rw [if_pos q] at hc13
                exact q hc13
              · exact Decidable.not_not.1 q
            refine awp_skip ?_
            change Awp _ _ _ _ _
            refine awp_seq ?_
            refine awp_region 1 mixed (by kernel_rfl) ?_
            refine rg_q (q_assign_nil) ?_
            refine rn ?_
            change Awp _ _ _ _ _
            refine Awp.le (le_own (k := 11) (e := 72) (sz := 1) rfl rfl) ?_
            refine awp_seq ?_
            refine awp_seq ?_
            refine awp_region 1 mixed (by kernel_rfl) ?_
            refine rg_q (q_a rfl) ?_
            refine rn ?_
            change Awp _ _ _ _ _
            refine awp_block ?_
            refine awp_loopH [4, 11, 12, 13, 14, 15, 16, 17, 81, 82, 83, 84, 85, 86, 87, 88, 89, 90, 91, 92, 93, 94, 95, 96, 97, 98, 99, 100, 101, 102, 103, 104, 105, 106, 107, 108, 109, 110, 111, 112, 113, 114, 115, 116, 117, 118, 119, 120, 121] [11] (α := Nat) (fun k => [(12, T.i (k : Int)), (11, .rs 11)]) (fun k => [(11, .row 72 1 (((s.fl.take k).map (imE s g)).map imC))]) (fun k => k ≤ s.fl.length ∧ ∀ x ∈ s.fl.take k, (prL s.ar.el.length).any (bigP (alS s x)) = false) (fun k => s.fl.length - k) 0 ⟨Nat.zero_le _, fun x q => by simp at q⟩ ?_ ?_
            · exact le_head (ms := [11]) (by repeat (exact Out.refl _)) ⟨(by rfl), (by rfl), trivial⟩ ⟨(by rfl), trivial⟩ rfl rfl rfl rfl
            ·
              intro k ⟨hk, hal⟩
              have htl : (s.fl.take k).length ≤ k := by rw [List.length_take]; omega
              refine awp_seq ?_
              refine awp_seq ?_
              refine awp_region 5 mixed (by kernel_rfl) ?_
              refine rg_q (q_m rfl) (rg_q (q_fieldAddr fld130_2 rfl) (rg_q (q_load sz128 rfl rfl) ?_))
              refine rg_q (q_len isl128 rfl (by exact len_map _ _)) ?_
              refine rg_q (q_lss rfl rfl) ?_
              refine rn ?_
              change Awp _ _ _ _ _
              refine awp_len (t := 83) rfl (fun hl83 => ?_)
              (try simp only [List.length_map] at hl83)
              refine awp_cond rfl (fun hc17 => ?_) (fun hc17 => ?_)
              ·
                (try simp only [nb, ne_eq] at hc17)
                have hlt : k < s.fl.length := by omega
                obtain ⟨x, hx⟩ : ∃ x, s.fl[k]? = some x := ⟨_, List.getElem?_eq_getElem hlt⟩
                have hxm := List.mem_of_getElem? hx
                have h0x : (ckSpc (alS s x)).2 = 0 := spc_one h0 hxm
                have hsk : ((s.fl.take (k + 1)).map (imE s g)).map imC = ((s.fl.take k).map (imE s g)).map imC ++ [imC (imE s g x)] := by rw [takeSnoc hx, List.map_append, List.map_append]; rfl
                refine awp_skip ?_
                change Awp _ _ _ _ _
                refine awp_seq ?_
                refine awp_block ?_
                refine awp_seq ?_
                refine awp_region 2 mixed (by kernel_rfl) ?_
                refine rg_q (q_loadA sz130 rfl rfl rfl) ?_
                refine rg_q (q_call en75 (.cons rfl .nil) rfl (copySpc_p s (by omega) (by omega) (by omega))) ?_
                refine rg_nil ?_
                refine aops_alloc zr130 rfl rfl rfl ?_
                refine aops_store sz130 rfl rfl (by exact .inr ⟨_, rfl⟩) rfl rfl (by decide) rfl ?_
                refine aops_nil ?_
                change Awp _ _ _ _ _
                refine awp_seq ?_
                refine awp_region 7 mixed (by kernel_rfl) ?_
                refine rg_q (q_fieldAddr fld130_2 rfl) (rg_q (q_load sz128 rfl rfl) (rg_q (q_m rfl) ?_))
                refine rg_q (q_indexAddr sl128 rfl rfl (by omega) (map_at (k := k) (by omega) hx)) ?_
                refine rg_q (q_loadA (ds := [_, _, _, _, _, _, _, _]) sz135 rfl rfl rfl) ?_
                refine rg_q (q_buildSlice sl128 zr135 rfl rfl (by decide) (.cons rfl (by exact .inr ⟨_, rfl⟩) .nil) ⟨rfl, rfl, trivial⟩ rfl (by decide) rfl) ?_
                refine rg_q (q_fieldAddr_ref fld130_2 rfl) ?_
                refine rg_nil ?_
                refine aops_store sz128 rfl rfl (by exact .inl rfl) rfl rfl (by exact Nat.le_of_ble_eq_true rfl) rfl ?_
                refine aops_nil ?_
                change Awp _ _ _ _ _
                refine awp_seq ?_
                refine awp_region 5 mixed (by kernel_rfl) ?_
                refine rg_q (q_load_refA sz130 rfl rfl rfl rfl) ?_
                refine rg_q (q_call en78 (.cons rfl .nil) rfl (matrix5_p (alS s x))) ?_
                refine rg_q (q_move (x := .d (.tup _)) rfl) (rg_q (q_extract rfl rfl) (rg_q (q_extract rfl rfl) ?_))
                refine rg_nil ?_
                refine aops_alloc zr31 rfl rfl rfl ?_
                refine aops_store sz31 rfl rfl (by exact .inr ⟨_, rfl⟩) rfl rfl (by decide) rfl ?_
                refine aops_q rfl (q_a rfl) ?_
                refine aops_nil ?_
                change Awp _ _ _ _ _
                refine awp_seq ?_
                refine awp_seq ?_
                refine awp_region 2 mixed (by kernel_rfl) ?_
                refine rg_q (q_m rfl) (rg_q (q_neq rfl rfl) ?_)
                refine rn ?_
                change Awp _ _ _ _ _
                refine awp_cond rfl (fun hc22 => ?_) (fun hc22 => ?_)
                ·
                  (try simp only [nb, ne_eq] at hc22)
                  have hm8 : (mxR (alS s x)).2 = 8 := by
                    rcases mx_ok5 h0x with q | q
                    · exact q
                    · rw [q.2] at hc22; exact absurd rfl hc22
                  rw [hm8]
                  refine awp_seq ?_
                  refine awp_region 3 mixed (by kernel_rfl) ?_
                  refine rg_q (q_m rfl) (rg_q (q_eql rfl rfl) (rg_q (q_a rfl) ?_))
                  refine rn ?_
                  change Awp _ _ _ _ _
                  refine awp_ret ?_
                  refine ⟨_, (.cons (.tmp (by exact .d _)) .nil), ?_⟩
                  rfl
                ·
                  (try simp only [nb, ne_eq] at hc22)
                  obtain ⟨hbx, hmxx⟩ : (prL s.ar.el.length).any (bigP (alS s x)) = false ∧ mxR (alS s x) = (((s.ar.el.length : Int), mxB (alS s x) (prL s.ar.el.length)), 0) := by
                    rcases mx_ok5 h0x with q | q
                    · rw [q] at hc22; exact absurd hc22 (by decide)
                    · exact q
                  have hbxx : mxC ((s.ar.el.length : Int), mxB (alS s x) (prL s.ar.el.length)) = mtxC (taS (alS s x) g).ne (taS (alS s x) g).bf := mx_box5 (alS s x) g
                  rw [hmxx, hbxx]
                  have hckx : (ckT (taS (alS s x) g)).2 = 0 := by rw [ckT_ta (s := alS s x) h0x hbx]; rw [hgt] at hck; exact hck
                  have hix : (imgR (taS (alS s x) g)).2 = 0 := by rw [img_ok5 hckx]
                  have hal2 : ∀ y ∈ s.fl.take (k + 1), (prL s.ar.el.length).any (bigP (alS s y)) = false := fun y hy => by
                    rw [takeSnoc hx] at hy
                    rcases List.mem_append.1 hy with q | q
                    · exact hal y q
                    · rw [List.mem_singleton.1 q]; exact hbx
                  refine awp_skip ?_
                  change Awp _ _ _ _ _
                  refine awp_seq ?_
                  refine awp_region 12 mixed (by kernel_rfl) ?_
                  refine rg_q (q_fieldAddr fld130_0 rfl) ?_
                  refine rg_q (q_loadA (ds := [_, _, _, _, _, _, _, _, _, _, _]) sz28 rfl rfl rfl) ?_
                  refine rg_q (q_call en79 (.cons rfl .nil) rfl (copyArr_p s.ar (by omega))) ?_
                  refine rg_q (q_load_refA (ds := [_, _]) sz31 rfl rfl rfl rfl) ?_
                  refine rg_q (q_loadA (ds := [_, _, _, _, _]) sz35 rfl rfl rfl) ?_
                  refine rg_q (q_build pl37 zr37 rfl (.cons rfl (by exact .inr ⟨_, rfl⟩) (.cons rfl (by exact .inr ⟨_, rfl⟩) (.cons rfl (by exact .inr ⟨_, rfl⟩) .nil))) ⟨⟨rfl, by decide⟩, ⟨rfl, by decide⟩, ⟨rfl, by decide⟩, trivial⟩ rfl) ?_
                  refine rg_q (q_call en37 (.cons rfl .nil) rfl (image5_p (taS (alS s x) g))) ?_
                  refine rg_q (q_move (x := .d (.tup _)) rfl) (rg_q (q_extract rfl rfl) (rg_q (q_extract rfl rfl) (rg_q (q_assign (x := .d (.sl _ _)) rfl) (rg_q (q_a rfl) ?_))))
                  refine rn ?_
                  change Awp _ _ _ _ _
                  refine awp_seq ?_
                  refine awp_seq ?_
                  refine awp_region 2 mixed (by kernel_rfl) ?_
                  refine rg_q (q_m rfl) (rg_q (q_neq rfl rfl) ?_)
                  refine rn ?_
                  change Awp _ _ _ _ _
                  refine awp_cond rfl (fun hc25 => ?_) (fun hc25 => ?_)
                  ·
                    exact absurd hix (of_decide_eq_true hc25)
                  ·
                    (try simp only [nb, ne_eq] at hc25)
                    refine awp_skip ?_
                    change Awp _ _ _ _ _
                    refine awp_region 3 mixed (by kernel_rfl) ?_
                    refine rg_q (q_move (x := .rs _) rfl) (rg_q (q_move (x := .d (.sl _ _)) rfl) ?_)
                    refine rg_q (q_buildSlice sl105 zr72 rfl rfl (by decide) (.cons rfl (by exact .inl rfl) .nil) ⟨rfl, rfl, trivial⟩ rfl (by decide) rfl) ?_
                    refine rg_nil ?_
                    refine aops_append sl105 zr72 by72 rfl (by decide) rfl rfl rfl rfl (by (try simp only [List.length_map, List.length_append, List.length_cons, List.length_nil]); omega) (by (try simp only [List.length_map, List.length_append, List.length_cons, List.length_nil]); omega) rfl rfl ?_
                    refine aops_q rfl (q_assign (x := .rs _) rfl) ?_
                    refine aops_nil ?_
                    change Awp _ _ _ _ _
                    refine awp_region 3 mixed (by kernel_rfl) ?_
                    refine rg_q (q_m rfl) ?_
                    refine rg_q (q_add rfl rfl (In64.mk (by omega) (by omega))) ?_
                    refine rg_q (q_a rfl) ?_
                    refine rn ?_
                    refine ⟨k + 1, ⟨by omega, hal2⟩, by omega, ?_⟩
                    exact le_head (ms := [11]) (by repeat (first | exact Out.head rfl rfl | (refine Out.put ?_ rfl) | (refine Out.site ?_ rfl) | (refine Out.killS ?_ rfl))) ⟨(by rfl), (by rfl), trivial⟩ ⟨(by ((show Site.row _ 1 _ = Site.row _ 1 _; rw [hsk]; rfl))), trivial⟩ rfl rfl rfl rfl
              ·
                (try simp only [nb, ne_eq] at hc17)
                have hkn : k = s.fl.length := by omega
                subst hkn
                rw [List.take_length] at *
                have hsum := img_sum (g := g) h0 hf1 hf2 hb hal hck
                refine awp_exit ?_
                change Awp _ _ _ _ _
                refine awp_seq ?_
                refine Awp.le (le_freezeR (es := (s.fl.map (imE s g)).map imC) 11 11 (by show Site.row _ _ _ = _; rfl) rfl rfl rfl hmine) ?_
                refine awp_region 7 mixed (by kernel_rfl) ?_
                refine rg_q (q_move (x := .d (.sl _ _)) rfl) ?_
                refine rg_q (q_call en60 (.cons rfl .nil) rfl ((by have q := mergedI_p (s.fl.map (imE s g)); rw [hsum] at q; exact q))) ?_
                refine rg_q (q_move (x := .d (.tup _)) rfl) (rg_q (q_extract rfl rfl) (rg_q (q_extract rfl rfl) (rg_q (q_assign (x := .d (.sl _ _)) rfl) (rg_q (q_a rfl) ?_))))
                refine rs (awp_region 8 mixed (by kernel_rfl) ?_)
                refine rg_q (q_m rfl) (rg_q (q_eql rfl rfl) (rg_q (q_m rfl) ?_))
                refine rg_g rfl rfl (fun hG => (q_move (x := .d (.sl _ _)) rfl)) ?_
                refine rg_g rfl rfl (fun hG => (q_move (x := .d (.sl _ _)) rfl)) ?_
                refine rg_g rfl rfl (fun hG => (q_call en38 (.cons rfl (.cons rfl .nil)) rfl (sameNums_p _ _))) ?_
                refine rg_pick rfl rfl rfl rfl rfl rfl ?_
                refine rg_q (q_a rfl) ?_
                refine rn ?_
                change Awp _ _ _ _ _
                refine awp_ret ?_
                refine ⟨_, (.cons (.tmp (by exact .d _)) .nil), ?_⟩
                simp [retD]
end Go.Proofs.YtphlaicnmmglhaaGreat.Am.M
