/- Contracts over the abstract machine: full matrices; BenchMatrices. Conditions: none. -/
import Derived.Test.YtblbnagdhcpnoaaGreatK24
import Derived.Test.YtblbnagdhcpnoaaGreatAmE
import Derived.Test.YtblbnagdhcpnoaaGreatY2
set_option linter.unusedVariables false
set_option linter.unusedSimpArgs false
-- mini
namespace Go.Proofs.YtblbnagdhcpnoaaGreat.Am.M
open Go

def fvC (v : Int) : List D := [fv v]
def mtS (s : Spc) (p : Int × Int) : List Int := smT s.ar s.pl p (ptsS s) (ptsS s).length
def bigP (s : Spc) (p : Int × Int) : Bool := (mtS s p).any bigB
def mxB (s : Spc) (l : List (Int × Int)) : List Int := l.flatMap (mtS s)
def mxR (s : Spc) : (Int × List Int) × Int := if (ckSpc s).2 ≠ 0 then ((0, []), (ckSpc s).2) else if (prL s.ar.el.length).any (bigP s) = true then ((0, []), 8) else (((s.ar.el.length : Int), mxB s (prL s.ar.el.length)), 0)
def mxC (m : Int × List Int) : List D := [.v (.int .i64 m.1), .sl 1 (m.2.map fvC)]
theorem mtS_len (s : Spc) (p : Int × Int) : (mtS s p).length = 64 := smT_len _
theorem mt_row (s : Spc) (p : Int × Int) : (((mtS s p).map fv).map fun d => [d]) = (mtS s p).map fvC := by rw [List.map_map]; rfl
theorem mxB_len (s : Spc) : ∀ l : List (Int × Int), (mxB s l).length = 64 * l.length
  | [] => rfl
  | p :: l => by
    have ih := mxB_len s l
    unfold mxB at ih ⊢
    rw [List.flatMap_cons, List.length_append, mtS_len, ih, List.length_cons]; omega
theorem mxB_snoc (s : Spc) (l : List (Int × Int)) (p : Int × Int) : mxB s (l ++ [p]) = mxB s l ++ mtS s p := by unfold mxB; rw [List.flatMap_append]; simp
theorem trc_big {s : Spc} {p : Int × Int} (h : bigP s p = true) : trcR s (ptsS s) p = (z64, 8) := by unfold trcR; rw [if_pos (show (smT s.ar s.pl p (ptsS s) (ptsS s).length).any bigB = true from h)]
theorem trc_ok {s : Spc} {p : Int × Int} (h : bigP s p = false) : trcR s (ptsS s) p = ((mtS s p).map fv, 0) := by unfold trcR; rw [if_neg (by rw [show (smT s.ar s.pl p (ptsS s) (ptsS s).length).any bigB = false from h]; decide)]; rfl
theorem any_snoc {s : Spc} {l : List (Int × Int)} {p : Int × Int} (h1 : l.any (bigP s) = false) (h2 : bigP s p = false) : (l ++ [p]).any (bigP s) = false := by rw [List.any_append, h1, List.any_cons, h2]; rfl
theorem take_snoc {α : Type} {l : List α} {k : Nat} {y : α} (hy : l[k]? = some y) : l.take (k + 1) = l.take k ++ [y] := by rw [List.take_succ_eq_append_getElem (List.getElem?_eq_some_iff.1 hy).1, (List.getElem?_eq_some_iff.1 hy).2]
theorem trR_len (s : Spc) (p : Int × Int) : (trcR s (ptsS s) p).1.length = 64 := trcR_len s (ptsS s) p
set_option maxRecDepth 100000 in
theorem matrixBad_p (s : Spc) (h0 : (ckSpc s).2 ≠ 0) : PC Tryz.prog 20 [.agg (spcC s)] (.tup [.agg (mxC (mxR s).1), .v (.int .i64 ((mxR s).2))]) := by
  have hos : osR s = (zOp, (ckSpc s).2) := by unfold osR; rw [if_pos h0]
  have hz : mxR s = ((0, []), (ckSpc s).2) := by unfold mxR; rw [if_pos h0]
  refine pc_of_awpN Tryz.func20 rfl Tryz.ntmps20 (rs := [.cell 2 59, .cell 3 39]) Tryz.results20 (by simp) fun w0 hmine hrnd hpn => ?_
  refine awp_seq ?_
  refine awp_region 1 mixed (by kernel_rfl) ?_
  refine rg_q (q_box rfl (by exact .inr ⟨_, rfl⟩)) ?_
  refine rg_nil ?_
  refine aops_alloc zr59 rfl rfl rfl ?_
  refine aops_alloc zr39 rfl rfl rfl ?_
  refine aops_nil ?_
  change Awp _ _ _ _ _
  refine awp_seq ?_
  refine awp_region 5 mixed (by kernel_rfl) ?_
  refine rg_q (q_loadA sz32 rfl rfl rfl) ?_
  refine rg_q (q_call en44 (.cons rfl .nil) rfl ((by have h := openSpecimen_p s; rw [hos] at h; exact h))) ?_
  refine rg_q (q_move (x := .d (.tup _)) rfl) ?_
  refine rg_q (q_extract rfl rfl) ?_
  refine rg_q (q_extract rfl rfl) ?_
  refine rg_nil ?_
  refine aops_alloc zr102 rfl rfl rfl ?_
  refine aops_store sz102 rfl rfl (by exact .inr ⟨_, rfl⟩) rfl rfl (by decide) rfl ?_
  refine aops_q rfl (q_assign (x := .d (.v _)) rfl) ?_
  refine aops_nil ?_
  change Awp _ _ _ _ _
  refine awp_seq ?_
  refine awp_seq ?_
  refine awp_region 2 mixed (by kernel_rfl) ?_
  refine rg_q (q_move (x := .d (.v _)) rfl) ?_
  refine rg_q (q_neq rfl rfl) ?_
  refine rg_nil ?_
  refine aops_nil ?_
  change Awp _ _ _ _ _
  refine awp_cond rfl (fun hc2 => ?_) (fun hc2 => ?_)
  ·
    (try simp only [decide_eq_true_eq, decide_eq_false_iff_not, Bool.and_eq_true, Bool.or_eq_true, Bool.and_eq_false_iff, Bool.or_eq_false_iff, Bool.not_eq_true', Bool.not_eq_false', Bool.not_true, Bool.not_false, bif_and, bif_or, Bool.not_not, ne_eq, Decidable.not_not, not_true_eq_false, not_false_eq_true, Int.not_le, Int.not_lt] at hc2)
    refine awp_seq ?_
    refine awp_region 2 mixed (by kernel_rfl) ?_
    refine rg_q (q_build (cs := [_, _]) pl59 zr59 rfl .nil trivial rfl) ?_
    refine rg_q (q_move (x := .d (.v _)) rfl) ?_
    refine rg_nil ?_
    refine aops_store sz59 rfl rfl (by exact .inr ⟨_, rfl⟩) rfl rfl (by decide) rfl ?_
    refine aops_store sz39 rfl rfl (by exact .inl rfl) rfl rfl (by decide) rfl ?_
    refine aops_nil ?_
    change Awp _ _ _ _ _
    refine Awp.le (le_upB 2 (mxC (0, [])) rfl (.cons (.same _) (.cons (.nil 1) .nil))) ?_
    refine awp_ret ?_
    refine ⟨_, (.cons (.cellA rfl rfl sz59 rfl) (.cons (.cell1 rfl rfl sz39) .nil)), ?_⟩
    rw [hz]; rfl
  ·
    exact absurd (Decidable.not_not.1 (of_decide_eq_false hc2)) h0
set_option maxRecDepth 100000 in
theorem matrixOk_p (s : Spc) (h0 : (ckSpc s).2 = 0) : PC Tryz.prog 20 [.agg (spcC s)] (.tup [.agg (mxC (mxR s).1), .v (.int .i64 ((mxR s).2))]) := by
  have hos : osR s = (opnS s (ptsS s), 0) := by unfold osR; rw [if_neg (fun q => q h0)]
  have hsp := spc_ok h0
  have hok := hsp.ar
  have hn2 := hok.n2
  have hp1 := hsp.p1
  have hpl := prL_len hn2
  obtain ⟨hP1, hP2⟩ := ptsS_in hsp
  refine pc_of_awpN Tryz.func20 rfl Tryz.ntmps20 (rs := [.cell 2 59, .cell 3 39]) Tryz.results20 (by simp) fun w0 hmine hrnd hpn => ?_
  refine awp_seq ?_
  refine awp_region 1 mixed (by kernel_rfl) ?_
  refine rg_q (q_box rfl (by exact .inr ⟨_, rfl⟩)) ?_
  refine rg_nil ?_
  refine aops_alloc zr59 rfl rfl rfl ?_
  refine aops_alloc zr39 rfl rfl rfl ?_
  refine aops_nil ?_
  change Awp _ _ _ _ _
  refine awp_seq ?_
  refine awp_region 5 mixed (by kernel_rfl) ?_
  refine rg_q (q_loadA sz32 rfl rfl rfl) ?_
  refine rg_q (q_call en44 (.cons rfl .nil) rfl ((by have h := openSpecimen_p s; rw [hos] at h; exact h))) ?_
  refine rg_q (q_move (x := .d (.tup _)) rfl) ?_
  refine rg_q (q_extract rfl rfl) ?_
  refine rg_q (q_extract rfl rfl) ?_
  refine rg_nil ?_
  refine aops_alloc zr102 rfl rfl rfl ?_
  refine aops_store sz102 rfl rfl (by exact .inr ⟨_, rfl⟩) rfl rfl (by decide) rfl ?_
  refine aops_q rfl (q_assign (x := .d (.v _)) rfl) ?_
  refine aops_nil ?_
  change Awp _ _ _ _ _
  refine awp_seq ?_
  refine awp_seq ?_
  refine awp_region 2 mixed (by kernel_rfl) ?_
  refine rg_q (q_move (x := .d (.v _)) rfl) ?_
  refine rg_q (q_neq rfl rfl) ?_
  refine rg_nil ?_
  refine aops_nil ?_
  change Awp _ _ _ _ _
  refine awp_cond rfl (fun hc2 => ?_) (fun hc2 => ?_)
  ·
    exact absurd rfl (of_decide_eq_true hc2)
  ·
    (try simp only [decide_eq_true_eq, decide_eq_false_iff_not, Bool.and_eq_true, Bool.or_eq_true, Bool.and_eq_false_iff, Bool.or_eq_false_iff, Bool.not_eq_true', Bool.not_eq_false', Bool.not_true, Bool.not_false, bif_and, bif_or, Bool.not_not, ne_eq, Decidable.not_not, not_true_eq_false, not_false_eq_true, Int.not_le, Int.not_lt] at hc2)
    refine awp_skip ?_
    change Awp _ _ _ _ _
    refine awp_seq ?_
    refine awp_region 6 mixed (by kernel_rfl) ?_
    refine rg_q (q_fieldAddr_ref fld102_0 rfl) ?_
    refine rg_q (q_fieldAddr_ref fld100_0 rfl) ?_
    refine rg_q (q_fieldAddr_ref fld28_0 rfl) ?_
    refine rg_q (q_load_ref sz22 rfl rfl rfl) ?_
    refine rg_q (q_len isl22 rfl (by exact len_map _ _)) ?_
    refine rg_q (q_build (cs := [_, _]) pl59 zr59 rfl (.cons rfl (by exact .inl rfl) .nil) ⟨⟨rfl, by decide⟩, trivial⟩ rfl) ?_
    refine rg_nil ?_
    refine aops_alloc zr59 rfl rfl rfl ?_
    refine aops_store sz59 rfl rfl (by exact .inr ⟨_, rfl⟩) rfl rfl (by decide) rfl ?_
    refine aops_nil ?_
    change Awp _ _ _ _ _
    refine awp_len (t := 22) rfl (fun hl22 => ?_)
    (try simp only [List.length_map] at hl22)
    refine awp_seq ?_
    refine awp_seq ?_
    refine awp_region 3 mixed (by kernel_rfl) ?_
    refine rg_q (q_fieldAddr_ref fld102_0 rfl) ?_
    refine rg_q (q_load_refA (ds := [_, _, _, _, _, _, _, _, _, _, _]) sz100 rfl rfl rfl rfl) ?_
    refine rg_q (q_makeMfn (.cons rfl .nil)) ?_
    refine rg_nil ?_
    refine aops_nil ?_
    change Awp _ _ _ _ _
    refine awp_block ?_
    refine Awp.le (le_upB 2 (mxC (0, [])) rfl (.cons (.same _) (.cons (.nil 1) .nil))) ?_
    refine Awp.le (le_freeze 4 4 0 (cs := (opnS s (ptsS s))) rfl rfl rfl rfl hmine) ?_
    refine Awp.le (le_ownB 6 42 1 36 1 rfl rfl rfl) ?_
    refine awp_rangeC (α := Int × Int) (β := Nat × Int) (n := 45) (enc := encP) (items := prL s.ar.el.length) 1000 [(2, .ref 2 0), (3, .ref 3 0), (4, .d (.pt (opnS s (ptsS s)) 0)), (6, .ref 6 0), (27, .d (.mfn (.func 56) [.agg (arrC s.ar)]))] (fun x => [(2, .box (mxC (0, []))), (3, .box [.v (.int .i64 (x.2))]), (6, .tbox [.d (.v (.int .i64 ((s.ar.el.length : Int)))), .rs 42]), (42, .row 36 1 ((mxB s ((prL s.ar.el.length).take x.1)).map fvC))]) (fun k x => x.1 = k ∧ k ≤ (prL s.ar.el.length).length ∧ x.2 = 0 ∧ ((prL s.ar.el.length).take k).any (bigP s) = false) (fun e x => e = Exit.ret ∧ x.2 = 8 ∧ (prL s.ar.el.length).any (bigP s) = true) (0, 0) hrnd ?_ (.inl ⟨rfl, rfl⟩) en56 (pairs_i s.ar) rfl (fun _ => rfl) rfl (fun _ => by repeat first | exact trivial | refine ⟨by exact D.Flat.aggF (by repeat first | exact trivial | refine ⟨.v _, ?_⟩), ?_⟩) (fun _ => rfl) ⟨rfl, Nat.zero_le _, rfl, rfl⟩ (fun h => by cases h) ?_ ?_ ?_
    · exact le_cst (fun k => k) _ _ rfl ⟨(by rfl), (by rfl), (by rfl), (by rfl), (by rfl), trivial⟩ ⟨(by rfl), (by rfl), (by rfl), (by rfl), trivial⟩ rfl (fun k b h => by rw [hpn k] at h; cases h)
    ·
      intro w1 hw1 k x y hI hy
      obtain ⟨h1, hk, hv0, hf⟩ := hI
      obtain ⟨x, e0⟩ := x
      simp only at h1 hv0
      subst h1 hv0
      have hpy := prL_in (List.mem_of_getElem? hy)
      have hxl : x < (prL s.ar.el.length).length := (List.getElem?_eq_some_iff.1 hy).1
      have hml := mxB_len s ((prL s.ar.el.length).take x)
      have hm64 := mtS_len s y
      have htl : ((prL s.ar.el.length).take x).length ≤ 256 := by rw [List.length_take]; omega
      have hs1 : (mxB s ((prL s.ar.el.length).take x)).map fvC ++ (mtS s y).map fvC = (mxB s ((prL s.ar.el.length).take (x + 1))).map fvC := by rw [take_snoc hy, mxB_snoc, List.map_append]
      refine awp_region 0 mixed (by kernel_rfl) ?_
      refine rg_nil ?_
      refine aops_alloc zr33 rfl rfl rfl ?_
      refine aops_store sz33 rfl rfl (by exact .inr ⟨_, rfl⟩) rfl rfl (by decide) rfl ?_
      refine aops_nil ?_
      refine ⟨rfl, fun w2 hw2 => ?_⟩
      refine awp_block ?_
      refine awp_seq ?_
      refine awp_region 6 mixed (by kernel_rfl) ?_
      refine rg_q (q_loadA sz102 rfl rfl rfl) ?_
      refine rg_q (q_load_refA (ds := [_, _]) sz33 rfl rfl rfl rfl) ?_
      refine rg_q (q_call en47 (.cons rfl (.cons rfl .nil)) rfl (traceOf_p s (ptsS s) y hok hpy hsp.p1 hsp.p2 hP1 hP2)) ?_
      refine rg_q (q_move (x := .d (.tup _)) rfl) ?_
      refine rg_q (q_extract rfl rfl) ?_
      refine rg_q (q_extract rfl rfl) ?_
      refine rg_nil ?_
      refine aops_allocD zr38 rfl sz38 rfl rfl (by exact .inr ⟨_, rfl⟩) (trR_len s y) rfl ?_
      refine aops_q rfl (q_assign (x := .d (.v _)) rfl) ?_
      refine aops_nil ?_
      change Awp _ _ _ _ _
      refine awp_seq ?_
      refine awp_seq ?_
      refine awp_region 2 mixed (by kernel_rfl) ?_
      refine rg_q (q_move (x := .d (.v _)) rfl) ?_
      refine rg_q (q_neq rfl rfl) ?_
      refine rg_nil ?_
      refine aops_nil ?_
      change Awp _ _ _ _ _
      refine awp_cond rfl (fun hc8 => ?_) (fun hc8 => ?_)
      ·
        (try simp only [decide_eq_true_eq, decide_eq_false_iff_not, Bool.and_eq_true, Bool.or_eq_true, Bool.and_eq_false_iff, Bool.or_eq_false_iff, Bool.not_eq_true', Bool.not_eq_false', Bool.not_true, Bool.not_false, bif_and, bif_or, Bool.not_not, ne_eq, Decidable.not_not, not_true_eq_false, not_false_eq_true, Int.not_le, Int.not_lt] at hc8)
        have hb : bigP s y = true := by
          cases q : bigP s y with
          | true => rfl
          | false => rw [trc_ok q] at hc8; exact absurd rfl hc8
        rw [trc_big hb]
        refine awp_seq ?_
        refine awp_region 2 mixed (by kernel_rfl) ?_
        refine rg_q (q_build (cs := [_, _]) pl59 zr59 rfl .nil trivial rfl) ?_
        refine rg_q (q_move (x := .d (.v _)) rfl) ?_
        refine rg_nil ?_
        refine aops_store sz59 rfl rfl (by exact .inr ⟨_, rfl⟩) rfl rfl (by decide) rfl ?_
        refine aops_store sz39 rfl rfl (by exact .inl rfl) rfl rfl (by simp; done) rfl ?_
        refine aops_nil ?_
        change Awp _ _ _ _ _
        refine Awp.le (le_upB 1002 (mxC (0, [])) rfl (.cons (.same _) (.cons (.nil 1) .nil))) ?_
        refine awp_ret ?_
        refine .inr ⟨rfl, (x, 8), ⟨rfl, rfl, List.any_eq_true.2 ⟨y, List.mem_of_getElem? hy, hb⟩⟩, ?_⟩
        exact le_round [] _ hw2 rfl ⟨(by rfl), (by rfl), (by rfl), (by rfl), trivial⟩ rfl
      ·
        (try simp only [decide_eq_true_eq, decide_eq_false_iff_not, Bool.and_eq_true, Bool.or_eq_true, Bool.and_eq_false_iff, Bool.or_eq_false_iff, Bool.not_eq_true', Bool.not_eq_false', Bool.not_true, Bool.not_false, bif_and, bif_or, Bool.not_not, ne_eq, Decidable.not_not, not_true_eq_false, not_false_eq_true, Int.not_le, Int.not_lt] at hc8)
        have hb : bigP s y = false := by
          cases q : bigP s y with
          | false => rfl
          | true => rw [trc_big q] at hc8; cases hc8
        rw [trc_ok hb]
        refine awp_skip ?_
        change Awp _ _ _ _ _
        refine awp_early (i := 4) mixed rfl (by kernel_rfl) fld59_1 rfl ?_
        refine any_regionC 6 [0, 1, 3, 5] [1042, 1006] (by kernel_rfl) ?_
        refine rgc_c rfl rfl (c_q (q_fieldAddr_ref fld59_1 rfl)) ?_
        refine rgc_c rfl rfl (c_q (q_load_tb (x := .rs _) sz57 rfl rfl rfl)) ?_
        refine rgc_q rfl (q_sliceP (es := (mtS s y).map fvC) ar38 rfl (by show ((mtS s y).map fv).length = 64; rw [List.length_map, mtS_len]) (by decide) (by decide) (by show (((mtS s y).map fv).map fun d => [d]) = _; exact mt_row s y)) rfl ?_
        refine rgc_c rfl rfl (c_append (es' := (mxB s ((prL s.ar.el.length).take (x + 1))).map fvC) sl57 zr36 by36 rfl (by decide) rfl rfl rfl rfl (by (try simp only [List.length_map, List.length_append, List.length_cons, List.length_nil]); omega) (by (try simp only [List.length_map, List.length_append, List.length_cons, List.length_nil]); omega) hs1) ?_
        refine rgc_q rfl (q_move (x := .d (.v (.bool true))) rfl) rfl ?_
        refine rgc_c rfl rfl ((c_storeR sz57 rfl rfl rfl (by simp) rfl)) ?_
        refine rgc_nil ?_
        refine aops_nil ?_
        refine ⟨rfl, ?_⟩
        refine .inl ⟨rfl, (x + 1, 0), ⟨rfl, hxl, rfl, by rw [take_snoc hy]; exact any_snoc hf hb⟩, ?_⟩
        exact le_round [] _ hw2 rfl ⟨(by rfl), (by rfl), (by rfl), (by rfl), trivial⟩ rfl
    ·
      intro x hI
      obtain ⟨h1, hk, hv0, hf⟩ := hI
      obtain ⟨x, e0⟩ := x
      simp only at h1 hv0
      subst h1 hv0
      rw [List.take_length] at *
      change Awp _ _ _ _ _
      refine awp_seq ?_
      refine Awp.le (le_freezeTB 6 42 1 rfl rfl rfl rfl hmine) ?_
      refine Awp.le (le_boxT 6 (mxC ((s.ar.el.length : Int), mxB s (prL s.ar.el.length))) rfl rfl (by intro j d h; match j, h with | 0, h => cases h; rfl | 1, h => cases h; rfl)) ?_
      refine awp_region 1 mixed (by kernel_rfl) ?_
      refine rg_q (q_load_refA (ds := [_, _]) sz59 rfl rfl rfl rfl) ?_
      refine rg_nil ?_
      refine aops_store sz59 rfl rfl (by exact .inr ⟨_, rfl⟩) rfl rfl (by decide) rfl ?_
      refine aops_store sz39 rfl rfl (by exact .inl rfl) rfl rfl (by simp; done) rfl ?_
      refine aops_nil ?_
      change Awp _ _ _ _ _
      refine awp_ret ?_
      refine ⟨_, (.cons (.cellA rfl rfl sz59 rfl) (.cons (.cell1 rfl rfl sz39) .nil)), ?_⟩
      have hz : mxR s = (((s.ar.el.length : Int), mxB s (prL s.ar.el.length)), 0) := by unfold mxR; rw [if_neg (fun q => q h0), if_neg (by rw [hf]; decide)]
      rw [hz]; rfl
    ·
      rintro e x (⟨rfl, hX⟩)
      ·
        refine ⟨_, (.cons (.cellA rfl rfl sz59 rfl) (.cons (.cell1 rfl rfl sz39) .nil)), ?_⟩
        have hz : mxR s = ((0, []), 8) := by unfold mxR; rw [if_neg (fun q => q h0), if_pos hX.2]
        rw [hz, hX.1]; rfl
end Go.Proofs.YtblbnagdhcpnoaaGreat.Am.M
