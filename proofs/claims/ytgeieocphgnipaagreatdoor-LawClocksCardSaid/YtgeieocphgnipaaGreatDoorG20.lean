/- Contracts over the abstract machine: the coarsest clock: the code, the reference, LawClocks. Conditions: none. -/
import Derived.Test.YtgeieocphgnipaaGreatDoorG15
import Derived.Test.YtgeieocphgnipaaGreatDoorG17
set_option linter.unusedVariables false
set_option linter.unusedSimpArgs false
namespace Go.Proofs.YtgeieocphgnipaaGreatDoor.Am.M
open Go

/-- A list from its end. -/
def bwdTo (l : List Int) : Nat → List (Int × Int)
  | 0 => []
  | k + 1 => bwdTo l k ++ [((l.length : Int) - 1 - (k : Int), l.getD (l.length - 1 - k) 0)]
theorem bwd_succ {l : List Int} {k : Nat} {v : Int} (h : l[l.length - 1 - k]? = some v) : bwdTo l (k + 1) = bwdTo l k ++ [((l.length : Int) - 1 - (k : Int), v)] := by
  show bwdTo l k ++ [_] = _
  rw [List.getD_eq_getElem?_getD, h]; rfl
theorem bwd_pre {l : List Int} {j : Nat} : ∀ {k : Nat}, j ≤ k → bwdTo l j <+: bwdTo l k
  | 0, h => by have : j = 0 := by omega
               subst this; exact List.prefix_rfl
  | k + 1, h => by
    by_cases e : j = k + 1
    · subst e; exact List.prefix_rfl
    · exact (bwd_pre (show j ≤ k by omega)).trans (List.prefix_append _ _)
theorem bwd_len (l : List Int) : ∀ k : Nat, (bwdTo l k).length = k
  | 0 => rfl
  | k + 1 => by show (bwdTo l k ++ [_]).length = _; rw [List.length_append, bwd_len l k]; rfl
theorem bwd_at {l : List Int} {k n : Nat} (hk : k < n) : (bwdTo l n)[k]? = some ((l.length : Int) - 1 - (k : Int), l.getD (l.length - 1 - k) 0) := by
  have h1 := bwd_pre (l := l) (show k + 1 ≤ n by omega)
  have h2 : (bwdTo l (k + 1))[k]? = some ((l.length : Int) - 1 - (k : Int), l.getD (l.length - 1 - k) 0) := by
    show (bwdTo l k ++ [_])[k]? = _
    rw [List.getElem?_append_right (by rw [bwd_len]; omega), bwd_len, Nat.sub_self]; rfl
  obtain ⟨t, ht⟩ := h1
  rw [← ht, List.getElem?_append_left (by rw [bwd_len]; omega)]
  exact h2
set_option maxRecDepth 100000 in
theorem backward_i (l : List Int) (hl2 : l.length ≤ 1000) : PI Tryz.prog 148 [] [.pt [.sl 1 (l.map iC)] 0] (fun p : Int × Int => [.v (.int .i64 p.1), .v (.int .i64 p.2)]) (bwdTo l l.length) true := by
  refine pi_of_iwp Tryz.func148 rfl Tryz.ntmps148 rfl rfl fun J c l0 hJ hy hdat hfin => ?_
  refine iwp_seq ?_
  apply iwp_reg hJ
  ·
    intro c1 hmine hrnd
    refine awp_region 4 mixed (by kernel_rfl) ?_
    first | refine rg_q (q_load sz31 rfl rfl) ?_ | refine rg_q (q_load_ref sz31 rfl rfl rfl) ?_ | refine rg_q (q_load_tb (x := .d _) sz31 rfl rfl rfl) ?_ | refine rg_q (q_load_tb (x := .rs _) sz31 rfl rfl rfl) ?_
    first | refine rg_q (q_len isl31 rfl (by first | exact len_map _ _ | rfl)) ?_ | refine rg_q (q_len_rs isl31 rfl rfl) ?_ | refine rg_q (q_len_nil isl31 rfl) ?_
    refine rg_q (q_sub rfl rfl (In64.mk (by omega) (by omega))) ?_
    refine rg_q (q_assign (x := .d (.v _)) rfl) ?_
    refine rg_nil ?_
    refine aops_nil ?_
    exact ⟨rfl, rfl⟩
  change Iwp _ _ _ _ _ _ _
  first | refine iwp_len (t := 4) rfl (fun hl4 => ?_) | skip
  (try simp only [List.length_map] at hl4)
  refine iwp_block ?_
  refine iwp_loopH [3, 7, 8, 9, 10, 11, 12, 13, 14, 15, 16, 17, 18] [] (β := Nat) (fun k => [(3, T.i ((l.length : Int) - 1 - (k : Int)))]) (fun k => []) (fun k => (true, bwdTo l k)) (fun k => k ≤ l.length) (fun k => l.length - k) 0 (Nat.zero_le _) rfl (fun c1 => ?_) ?_
  · exact le_head (ms := []) (by repeat (first | exact Out.refl _ | exact Out.head rfl rfl | (refine Out.put ?_ rfl) | (refine Out.site ?_ rfl) | (refine Out.putn ?_) | (refine Out.headIn ?_ rfl rfl rfl) | (refine Out.called ?_ rfl rfl))) ⟨(by first | rfl | (show T.i _ = T.i _; congr 1; omega)), trivial⟩ trivial rfl rfl rfl rfl
  ·
    intro k hk
    refine iwp_seq ?_
    refine iwp_seq ?_
    apply iwp_reg hJ
    ·
      intro c1 hmine hrnd
      refine awp_region 2 mixed (by kernel_rfl) ?_
      refine rg_q (q_move (x := .d (.v _)) rfl) ?_
      refine rg_q (q_geq rfl rfl) ?_
      refine rg_nil ?_
      refine aops_nil ?_
      exact ⟨rfl, rfl⟩
    change Iwp _ _ _ _ _ _ _
    refine iwp_cond rfl (fun hc1 => ?_) (fun hc1 => ?_)
    ·
      (try simp only [decide_eq_true_eq, decide_eq_false_iff_not, Bool.and_eq_true, Bool.or_eq_true, Bool.and_eq_false_iff, Bool.or_eq_false_iff, Bool.not_eq_true', Bool.not_eq_false', Bool.not_true, Bool.not_false, bif_and, bif_or, Bool.not_not, ne_eq, Decidable.not_not, not_true_eq_false, not_false_eq_true, Int.not_le, Int.not_lt] at hc1)
      have hlt : l.length - 1 - k < l.length := by omega
      obtain ⟨v, hx⟩ : ∃ v, l[l.length - 1 - k]? = some v := ⟨_, List.getElem?_eq_getElem hlt⟩
      refine iwp_skip ?_
      change Iwp _ _ _ _ _ _ _
      refine iwp_seq ?_
      refine iwp_block ?_
      refine iwp_seq ?_
      refine iwp_region ?_
      refine iops_of hJ rfl (fun c1 _ _ _ h => by exact aops_q rfl ((q_move (x := .d (.fn _ _)) rfl)) h) ?_
      refine iops_of hJ rfl (fun c1 _ _ _ h => by exact aops_q rfl ((q_move (x := .d (.v _)) rfl)) h) ?_
      first | refine iops_of hJ rfl (fun c1 _ _ _ h => by exact aops_q rfl ((q_load sz31 rfl rfl)) h) ?_ | refine iops_of hJ rfl (fun c1 _ _ _ h => by exact aops_q rfl ((q_load_ref sz31 rfl rfl rfl)) h) ?_ | refine iops_of hJ rfl (fun c1 _ _ _ h => by exact aops_q rfl ((q_load_tb (x := .d _) sz31 rfl rfl rfl)) h) ?_ | refine iops_of hJ rfl (fun c1 _ _ _ h => by exact aops_q rfl ((q_load_tb (x := .rs _) sz31 rfl rfl rfl)) h) ?_
      refine iops_of hJ rfl (fun c1 _ _ _ h => by exact aops_q rfl ((q_move (x := .d (.v _)) rfl)) h) ?_
      first | refine iops_of hJ rfl (fun c1 _ _ _ h => by exact aops_q rfl ((q_indexAddr sl31 rfl rfl (by omega) (map_at (k := l.length - 1 - k) (by omega) hx))) h) ?_ | refine iops_of hJ rfl (fun c1 _ _ _ h => by exact aops_q rfl ((q_indexAddr_rs sl31 rfl rfl rfl (by omega) (by omega))) h) ?_
      first | refine iops_of hJ rfl (fun c1 _ _ _ h => by exact aops_q rfl ((q_load sz3 rfl rfl)) h) ?_ | refine iops_of hJ rfl (fun c1 _ _ _ h => by exact aops_q rfl ((q_load_ref sz3 rfl rfl rfl)) h) ?_ | refine iops_of hJ rfl (fun c1 _ _ _ h => by exact aops_q rfl ((q_load_tb (x := .d _) sz3 rfl rfl rfl)) h) ?_ | refine iops_of hJ rfl (fun c1 _ _ _ h => by exact aops_q rfl ((q_load_tb (x := .rs _) sz3 rfl rfl rfl)) h) ?_
      refine iops_yield (x := ((l.length : Int) - 1 - (k : Int), v)) hy hdat rfl (.cons rfl (.cons rfl .nil)) (by rw [← bwd_succ hx]; exact bwd_pre (by omega)) rfl (fun yb => ?_)
      refine iops_of hJ rfl (fun c1 _ _ _ h => by exact aops_q rfl ((q_not rfl)) h) ?_
      refine iops_nil ?_
      change Iwp _ _ _ _ _ _ _
      refine iwp_cond rfl (fun hc3 => ?_) (fun hc3 => ?_)
      ·
        (try simp only [decide_eq_true_eq, decide_eq_false_iff_not, Bool.and_eq_true, Bool.or_eq_true, Bool.and_eq_false_iff, Bool.or_eq_false_iff, Bool.not_eq_true', Bool.not_eq_false', Bool.not_true, Bool.not_false, bif_and, bif_or, Bool.not_not, ne_eq, Decidable.not_not, not_true_eq_false, not_false_eq_true, Int.not_le, Int.not_lt] at hc3)
        have hyb : yb = false := by cases yb <;> first | rfl | (exfalso; simp_all; done)
        refine iwp_ret ?_
        exact ⟨.inl rfl, fun h => by rw [hyb] at h; cases h⟩
      ·
        (try simp only [decide_eq_true_eq, decide_eq_false_iff_not, Bool.and_eq_true, Bool.or_eq_true, Bool.and_eq_false_iff, Bool.or_eq_false_iff, Bool.not_eq_true', Bool.not_eq_false', Bool.not_true, Bool.not_false, bif_and, bif_or, Bool.not_not, ne_eq, Decidable.not_not, not_true_eq_false, not_false_eq_true, Int.not_le, Int.not_lt] at hc3)
        have hyb : yb = true := by cases yb <;> first | rfl | (exfalso; simp_all; done)
        refine iwp_skip ?_
        change Iwp _ _ _ _ _ _ _
        apply iwp_reg hJ
        ·
          intro c1 hmine hrnd
          refine awp_region 3 mixed (by kernel_rfl) ?_
          refine rg_q (q_move (x := .d (.v _)) rfl) ?_
          refine rg_q (q_sub rfl rfl (In64.mk (by omega) (by omega))) ?_
          refine rg_q (q_assign (x := .d (.v _)) rfl) ?_
          refine rg_nil ?_
          refine aops_nil ?_
          exact ⟨rfl, rfl⟩
        refine ⟨k + 1, by omega, by omega, by rw [hyb, bwd_succ hx], fun c1 => ?_⟩
        exact le_head (ms := []) (by repeat (first | exact Out.refl _ | exact Out.head rfl rfl | (refine Out.put ?_ rfl) | (refine Out.site ?_ rfl) | (refine Out.putn ?_) | (refine Out.headIn ?_ rfl rfl rfl) | (refine Out.called ?_ rfl rfl))) ⟨(by first | rfl | (show T.i _ = T.i _; congr 1; omega)), trivial⟩ trivial rfl rfl rfl rfl
    ·
      (try simp only [decide_eq_true_eq, decide_eq_false_iff_not, Bool.and_eq_true, Bool.or_eq_true, Bool.and_eq_false_iff, Bool.or_eq_false_iff, Bool.not_eq_true', Bool.not_eq_false', Bool.not_true, Bool.not_false, bif_and, bif_or, Bool.not_not, ne_eq, Decidable.not_not, not_true_eq_false, not_false_eq_true, Int.not_le, Int.not_lt] at hc1)
      have hkl : k = l.length := by omega
      refine iwp_exit ?_
      exact ⟨.inr rfl, fun _ => by rw [hkl]⟩
set_option maxRecDepth 100000 in
theorem backward_p (l : List Int) : PC Tryz.prog 117 [.sl 1 (l.map iC)] (.fn (.func 148) [.pt [.sl 1 (l.map iC)] 0]) := by
  refine pc_of_awp Tryz.func117 rfl Tryz.ntmps117 (rs := [.tmp 2]) Tryz.results117 (by simp) fun w0 => ?_
  refine awp_seq ?_
  refine awp_region 2 mixed (by kernel_rfl) ?_
  refine rg_q (q_box rfl (by first | exact .inl rfl | exact .inr ⟨_, rfl⟩)) ?_
  refine rg_q (q_assign (x := .d (.v .nilFunc)) rfl) ?_
  refine rg_nil ?_
  refine aops_nil ?_
  change Awp _ _ _ _ _
  refine awp_seq ?_
  refine awp_region 2 mixed (by kernel_rfl) ?_
  refine rg_q (q_makeFunc (.cons rfl .nil)) ?_
  refine rg_q (q_assign (x := .d (.fn _ _)) rfl) ?_
  refine rg_nil ?_
  refine aops_nil ?_
  change Awp _ _ _ _ _
  refine awp_ret ?_
  refine ⟨_, (.cons (.tmp (by first | exact .d _ | exact .rs rfl | exact .ref rfl | exact .tref rfl (.cons (.d _ rfl) (.cons (.rs rfl) .nil)))) .nil), ?_⟩
  rfl

def wck (a : Lar) (c : Int) : Lar := ⟨a.el, a.md, c⟩
/-- The error of clocks that are out of range or not above the one ahead. -/
def clkF : Int → List Int → Int
  | _, [] => 0
  | q, c :: cs => if clkE c ≠ 0 then clkE c else if c ≤ q then 9 else clkF c cs
def prvC (l : List Int) (k : Nat) : Int := if k = 0 then 0 else l.getD (k - 1) 0
theorem prvC_succ {l : List Int} {k : Nat} {y : Int} (h : l[k]? = some y) : prvC l (k + 1) = y := by
  unfold prvC; rw [if_neg (by omega), Nat.add_sub_cancel, List.getD_eq_getElem?_getD, h]; rfl
theorem clkF_at {l : List Int} {k : Nat} {y : Int} (h : l[k]? = some y) : clkF (prvC l k) (l.drop k) = if clkE y ≠ 0 then clkE y else if y ≤ prvC l k then 9 else clkF (prvC l (k + 1)) (l.drop (k + 1)) := by
  obtain ⟨hlt, hx⟩ := List.getElem?_eq_some_iff.1 h
  rw [List.drop_eq_getElem_cons hlt, hx, prvC_succ h]; rfl
theorem clkF_ok : ∀ {l : List Int} {q : Int}, clkF q l = 0 → ∀ c ∈ l, clkE c = 0
  | [], _, _, c, hc => by cases hc
  | y :: l, q, h, c, hc => by
    unfold clkF at h
    by_cases h1 : clkE y ≠ 0
    · rw [if_pos h1] at h; exact absurd h h1
    · rw [if_neg h1] at h
      by_cases h2 : y ≤ q
      · rw [if_pos h2] at h; cases h
      · rw [if_neg h2] at h
        rcases List.mem_cons.1 hc with rfl | hc
        · exact Decidable.not_not.1 h1
        · exact clkF_ok h c hc
def crsO (a : Lar) (p : Int × Int) (m c : Int) : Prop := (bltR (fcI (wck a c) p) c a.el.length).2 = 0 ∧ (sprL (arrL (wck a c) (fxL (wck a c) p) p)).2 = 0 ∧ (sprL (arrL (wck a c) (fxL (wck a c) p) p)).1.2 ≤ m
instance {a : Lar} {p : Int × Int} {m c : Int} : Decidable (crsO a p m c) := by unfold crsO; infer_instance
/-- The coarsest of the first clocks. -/
def crsK (a : Lar) (p : Int × Int) (m : Int) (l : List Int) : Nat → Int × Int
  | 0 => (0, 12)
  | k + 1 => if crsO a p m (l.getD k 0) then (l.getD k 0, 0) else crsK a p m l k
theorem crsK_at {a : Lar} {p : Int × Int} {m c : Int} {l : List Int} {k : Nat} (h : l[k]? = some c) : crsK a p m l (k + 1) = if crsO a p m c then (c, 0) else crsK a p m l k := by
  have e : l.getD k 0 = c := by rw [List.getD_eq_getElem?_getD, h]; rfl
  rw [← e]; rfl
def crsN (a : Lar) (p : Int × Int) (l : List Int) (m : Int) : Int × Int := if (l.length : Int) = 0 then (0, 10) else if 20 < (l.length : Int) then (0, 8) else if clkF 0 l ≠ 0 then (0, clkF 0 l) else if inR 0 m 1000000000000 = false then (0, 2) else crsK a p m l l.length
def crsR (a : Lar) (p : Int × Int) (l : List Int) (m : Int) : Int × Int := if focE a p ≠ 0 then (0, focE a p) else crsN a p l m
theorem ckLar_wck {a : Lar} {c : Int} (h : (ckLar a).2 = 0) (hc : clkE c = 0) : (ckLar (wck a c)).2 = 0 := by
  unfold ckLar at h ⊢
  by_cases h1 : cntE a.el.length ≠ 0
  · rw [if_pos h1] at h; exact absurd h h1
  · rw [if_neg h1] at h; rw [if_neg (show ¬ cntE (wck a c).el.length ≠ 0 from h1)]
    by_cases h2 : (ckLEl 0 a.el).2 ≠ 0
    · rw [if_pos h2] at h; exact absurd h h2
    · rw [if_neg h2] at h; rw [if_neg (show ¬ (ckLEl 0 (wck a c).el).2 ≠ 0 from h2)]
      have h3 : firstE [modeE a.md, clkE a.ck] = 0 := h
      show firstE [modeE a.md, clkE c] = 0
      rw [first_zero] at h3 ⊢
      simp only [List.mem_cons, List.not_mem_nil, or_false, forall_eq_or_imp, forall_eq] at h3 ⊢
      exact ⟨h3.1, hc⟩
theorem wck_ok {a : Lar} {c : Int} (h : LarOk a) (hc : clkE c = 0) : LarOk (wck a c) := ⟨h.n1, h.n2, h.el, h.md, (clkE_ok hc).1, (clkE_ok hc).2⟩
theorem wck_opn {a : Lar} {p : Int × Int} {c : Int} (hk : (ckLar a).2 = 0) (hla : LarOk a) (hc : clkE c = 0) (hT : ∀ i : Nat, i < a.el.length → fcI (wck a c) p (i : Int) ≤ 1000000) : opnE (wck a c) (fxL (wck a c) p) = 0 := by
  have h1 := ckLar_wck hk hc
  have h2 := fx_ok (wck_ok hla hc) hT
  unfold opnE
  rw [h1, h2, if_neg (fun q => q rfl), if_neg]
  intro q
  exact q (by rw [fx_len])
set_option maxRecDepth 100000 in
theorem coarsestBad_p (a : Lar) (p : Int × Int) (l : List Int) (m : Int) (he : focE a p ≠ 0) : PC Tryz.prog 60 [.agg (larC a), .agg (shC p), .agg [.sl 1 (l.map iC), .v (.int .i64 (m))]] (.tup [.v (.int .i64 ((crsR a p l m).1)), .v (.int .i64 ((crsR a p l m).2))]) := by
  have hz : crsR a p l m = (0, focE a p) := by unfold crsR; rw [if_pos he]
  refine pc_of_awp Tryz.func60 rfl Tryz.ntmps60 (rs := [.cell 6 3, .cell 7 34]) Tryz.results60 (by simp) fun w0 => ?_
  refine awp_seq ?_
  refine awp_region 0 mixed (by kernel_rfl) ?_
  refine rg_nil ?_
  refine aops_box rfl (by first | exact .inl rfl | exact .inr ⟨_, rfl⟩) rfl rfl rfl ?_
  refine aops_q rfl (q_box rfl (by first | exact .inl rfl | exact .inr ⟨_, rfl⟩)) ?_
  refine aops_q rfl (q_box rfl (by first | exact .inl rfl | exact .inr ⟨_, rfl⟩)) ?_
  refine aops_alloc zr3 rfl rfl rfl ?_
  refine aops_alloc zr34 rfl rfl rfl ?_
  refine aops_nil ?_
  change Awp _ _ _ _ _
  refine awp_seq ?_
  refine awp_region 3 mixed (by kernel_rfl) ?_
  first | refine rg_q (q_loadA (ds := [_, _, _, _, _, _]) sz26 rfl rfl rfl) ?_ | refine rg_q (q_load_refA (ds := [_, _, _, _, _, _]) sz26 rfl rfl rfl rfl) ?_
  first | refine rg_q (q_call en80 (.cons rfl .nil) rfl (arrayErr_p _)) ?_ | refine rg_q (q_callF en80 (.cons (by first | exact .d _ | exact .rs rfl | exact .ref rfl | exact .nil _ | exact .tref rfl (by repeat (first | exact .nil | refine .cons (.d _ rfl) ?_ | refine .cons (.rs rfl) ?_))) .nil) rfl (arrayErr_p _) (by first | exact .v _ | exact D.Flat.tupF (by repeat first | exact trivial | refine ⟨.v _, ?_⟩) | exact D.Flat.aggF (by repeat first | exact trivial | refine ⟨.v _, ?_⟩))) ?_
  refine rg_q (q_assign (x := .d (.v _)) rfl) ?_
  refine rg_nil ?_
  refine aops_nil ?_
  change Awp _ _ _ _ _
  refine awp_seq ?_
  refine awp_seq ?_
  refine awp_region 2 mixed (by kernel_rfl) ?_
  refine rg_q (q_move (x := .d (.v _)) rfl) ?_
  refine rg_q (q_eql rfl rfl) ?_
  refine rg_nil ?_
  refine aops_nil ?_
  change Awp _ _ _ _ _
  refine awp_cond rfl (fun hc2 => ?_) (fun hc2 => ?_)
  ·
    (try simp only [decide_eq_true_eq, decide_eq_false_iff_not, Bool.and_eq_true, Bool.or_eq_true, Bool.and_eq_false_iff, Bool.or_eq_false_iff, Bool.not_eq_true', Bool.not_eq_false', Bool.not_true, Bool.not_false, bif_and, bif_or, Bool.not_not, ne_eq, Decidable.not_not, not_true_eq_false, not_false_eq_true, Int.not_le, Int.not_lt] at hc2)
    have hk0 : (ckLar a).2 = 0 := by simpa using hc2
    obtain ⟨_, _, _, _, _, _, t1, t2⟩ := (lar_ok hk0).1.md
    have hfe : focE a p = plcE a p := by unfold focE; rw [if_neg (fun q => q hk0)]
    refine awp_region 4 mixed (by kernel_rfl) ?_
    first | refine rg_q (q_loadA (ds := [_, _, _, _, _, _]) sz26 rfl rfl rfl) ?_ | refine rg_q (q_load_refA (ds := [_, _, _, _, _, _]) sz26 rfl rfl rfl rfl) ?_
    first | refine rg_q (q_loadA (ds := [_, _]) sz28 rfl rfl rfl) ?_ | refine rg_q (q_load_refA (ds := [_, _]) sz28 rfl rfl rfl rfl) ?_
    first | refine rg_q (q_call en81 (.cons rfl (.cons rfl .nil)) rfl (placeErr_p a p t1 t2)) ?_ | refine rg_q (q_callF en81 (.cons (by first | exact .d _ | exact .rs rfl | exact .ref rfl | exact .nil _ | exact .tref rfl (by repeat (first | exact .nil | refine .cons (.d _ rfl) ?_ | refine .cons (.rs rfl) ?_))) (.cons (by first | exact .d _ | exact .rs rfl | exact .ref rfl | exact .nil _ | exact .tref rfl (by repeat (first | exact .nil | refine .cons (.d _ rfl) ?_ | refine .cons (.rs rfl) ?_))) .nil)) rfl (placeErr_p a p t1 t2) (by first | exact .v _ | exact D.Flat.tupF (by repeat first | exact trivial | refine ⟨.v _, ?_⟩) | exact D.Flat.aggF (by repeat first | exact trivial | refine ⟨.v _, ?_⟩))) ?_
    refine rg_q (q_assign (x := .d (.v _)) rfl) ?_
    refine rg_nil ?_
    refine aops_nil ?_
    change Awp _ _ _ _ _
    refine awp_seq ?_
    refine awp_block ?_
    refine awp_seq ?_
    refine awp_region 3 mixed (by kernel_rfl) ?_
    refine rg_q (q_move (x := .d (.v _)) rfl) ?_
    refine rg_q (q_neq rfl rfl) ?_
    refine rg_q (q_assign (x := .d (.v _)) rfl) ?_
    refine rg_nil ?_
    refine aops_nil ?_
    change Awp _ _ _ _ _
    refine awp_cond rfl (fun hc4 => ?_) (fun hc4 => ?_)
    ·
      (try simp only [decide_eq_true_eq, decide_eq_false_iff_not, Bool.and_eq_true, Bool.or_eq_true, Bool.and_eq_false_iff, Bool.or_eq_false_iff, Bool.not_eq_true', Bool.not_eq_false', Bool.not_true, Bool.not_false, bif_and, bif_or, Bool.not_not, ne_eq, Decidable.not_not, not_true_eq_false, not_false_eq_true, Int.not_le, Int.not_lt] at hc4)
      refine awp_seq ?_
      refine awp_region 1 mixed (by kernel_rfl) ?_
      refine rg_q (q_move (x := .d (.v _)) rfl) ?_
      refine rg_nil ?_
      first | refine aops_store sz3 rfl rfl (by first | exact .inl rfl | exact .inr ⟨_, rfl⟩) rfl rfl (by first | decide | simp; done | exact Nat.le_of_ble_eq_true rfl) rfl ?_ | refine aops_storeT (z := .rs _) sz3 rfl rfl rfl rfl (by first | decide | simp) rfl ?_ | refine aops_storeT (z := .d _) sz3 rfl rfl rfl rfl (by first | decide | simp) rfl ?_ | refine aops_storeTA sz3 rfl rfl (by first | exact .inl rfl | exact .inr ⟨_, rfl⟩) rfl rfl (by first | decide | simp) rfl ?_
      first | refine aops_store sz34 rfl rfl (by first | exact .inl rfl | exact .inr ⟨_, rfl⟩) rfl rfl (by first | decide | simp; done | exact Nat.le_of_ble_eq_true rfl) rfl ?_ | refine aops_storeT (z := .rs _) sz34 rfl rfl rfl rfl (by first | decide | simp) rfl ?_ | refine aops_storeT (z := .d _) sz34 rfl rfl rfl rfl (by first | decide | simp) rfl ?_ | refine aops_storeTA sz34 rfl rfl (by first | exact .inl rfl | exact .inr ⟨_, rfl⟩) rfl rfl (by first | decide | simp) rfl ?_
      refine aops_nil ?_
      change Awp _ _ _ _ _
      refine awp_ret ?_
      refine ⟨_, (.cons (.cell1 rfl rfl sz3) (.cons (.cell1 rfl rfl sz34) .nil)), ?_⟩
      rw [hz, hfe]; rfl
    ·
      exact absurd (of_decide_eq_false hc4) (fun h => h (by rw [← hfe]; exact he))
  ·
    (try simp only [decide_eq_true_eq, decide_eq_false_iff_not, Bool.and_eq_true, Bool.or_eq_true, Bool.and_eq_false_iff, Bool.or_eq_false_iff, Bool.not_eq_true', Bool.not_eq_false', Bool.not_true, Bool.not_false, bif_and, bif_or, Bool.not_not, ne_eq, Decidable.not_not, not_true_eq_false, not_false_eq_true, Int.not_le, Int.not_lt] at hc2)
    have hfe : focE a p = (ckLar a).2 := by unfold focE; rw [if_pos (by simpa using hc2)]
    refine awp_skip ?_
    change Awp _ _ _ _ _
    refine awp_seq ?_
    refine awp_block ?_
    refine awp_seq ?_
    refine awp_region 3 mixed (by kernel_rfl) ?_
    refine rg_q (q_move (x := .d (.v _)) rfl) ?_
    refine rg_q (q_neq rfl rfl) ?_
    refine rg_q (q_assign (x := .d (.v _)) rfl) ?_
    refine rg_nil ?_
    refine aops_nil ?_
    change Awp _ _ _ _ _
    refine awp_cond rfl (fun hc4 => ?_) (fun hc4 => ?_)
    ·
      (try simp only [decide_eq_true_eq, decide_eq_false_iff_not, Bool.and_eq_true, Bool.or_eq_true, Bool.and_eq_false_iff, Bool.or_eq_false_iff, Bool.not_eq_true', Bool.not_eq_false', Bool.not_true, Bool.not_false, bif_and, bif_or, Bool.not_not, ne_eq, Decidable.not_not, not_true_eq_false, not_false_eq_true, Int.not_le, Int.not_lt] at hc4)
      refine awp_seq ?_
      refine awp_region 1 mixed (by kernel_rfl) ?_
      refine rg_q (q_move (x := .d (.v _)) rfl) ?_
      refine rg_nil ?_
      first | refine aops_store sz3 rfl rfl (by first | exact .inl rfl | exact .inr ⟨_, rfl⟩) rfl rfl (by first | decide | simp; done | exact Nat.le_of_ble_eq_true rfl) rfl ?_ | refine aops_storeT (z := .rs _) sz3 rfl rfl rfl rfl (by first | decide | simp) rfl ?_ | refine aops_storeT (z := .d _) sz3 rfl rfl rfl rfl (by first | decide | simp) rfl ?_ | refine aops_storeTA sz3 rfl rfl (by first | exact .inl rfl | exact .inr ⟨_, rfl⟩) rfl rfl (by first | decide | simp) rfl ?_
      first | refine aops_store sz34 rfl rfl (by first | exact .inl rfl | exact .inr ⟨_, rfl⟩) rfl rfl (by first | decide | simp; done | exact Nat.le_of_ble_eq_true rfl) rfl ?_ | refine aops_storeT (z := .rs _) sz34 rfl rfl rfl rfl (by first | decide | simp) rfl ?_ | refine aops_storeT (z := .d _) sz34 rfl rfl rfl rfl (by first | decide | simp) rfl ?_ | refine aops_storeTA sz34 rfl rfl (by first | exact .inl rfl | exact .inr ⟨_, rfl⟩) rfl rfl (by first | decide | simp) rfl ?_
      refine aops_nil ?_
      change Awp _ _ _ _ _
      refine awp_ret ?_
      refine ⟨_, (.cons (.cell1 rfl rfl sz3) (.cons (.cell1 rfl rfl sz34) .nil)), ?_⟩
      rw [hz, hfe]; rfl
    ·
      exact absurd (of_decide_eq_false hc4) (fun h => h (by rw [← hfe]; exact he))
set_option maxRecDepth 100000 in
theorem coarsestOk_p (a : Lar) (p : Int × Int) (l : List Int) (m : Int) (hfo : focE a p = 0) : PC Tryz.prog 60 [.agg (larC a), .agg (shC p), .agg [.sl 1 (l.map iC), .v (.int .i64 (m))]] (.tup [.v (.int .i64 ((crsR a p l m).1)), .v (.int .i64 ((crsR a p l m).2))]) := by
  have hz : crsR a p l m = crsN a p l m := by unfold crsR; rw [if_neg (fun q => q hfo)]
  have hk0 : (ckLar a).2 = 0 := Decidable.not_not.1 (fun h => by unfold focE at hfo; rw [if_pos h] at hfo; exact h hfo)
  have hp : plcE a p = 0 := by unfold focE at hfo; rw [if_neg (fun q => q hk0)] at hfo; exact hfo
  have hla := (lar_ok hk0).1
  obtain ⟨_, _, _, _, _, _, t1, t2⟩ := hla.md
  have hu : crsN a p l m = if (l.length : Int) = 0 then (0, 10) else if 20 < (l.length : Int) then (0, 8) else if clkF 0 l ≠ 0 then (0, clkF 0 l) else if inR 0 m 1000000000000 = false then (0, 2) else crsK a p m l l.length := rfl
  refine pc_of_awpN Tryz.func60 rfl Tryz.ntmps60 (rs := [.cell 6 3, .cell 7 34]) Tryz.results60 (by simp) fun w0 hmine hrnd hpn => ?_
  refine awp_seq ?_
  refine awp_region 0 mixed (by kernel_rfl) ?_
  refine rg_nil ?_
  refine aops_box rfl (by first | exact .inl rfl | exact .inr ⟨_, rfl⟩) rfl rfl rfl ?_
  refine aops_q rfl (q_box rfl (by first | exact .inl rfl | exact .inr ⟨_, rfl⟩)) ?_
  refine aops_q rfl (q_box rfl (by first | exact .inl rfl | exact .inr ⟨_, rfl⟩)) ?_
  refine aops_alloc zr3 rfl rfl rfl ?_
  refine aops_alloc zr34 rfl rfl rfl ?_
  refine aops_nil ?_
  change Awp _ _ _ _ _
  refine awp_seq ?_
  refine awp_region 3 mixed (by kernel_rfl) ?_
  first | refine rg_q (q_loadA (ds := [_, _, _, _, _, _]) sz26 rfl rfl rfl) ?_ | refine rg_q (q_load_refA (ds := [_, _, _, _, _, _]) sz26 rfl rfl rfl rfl) ?_
  first | refine rg_q (q_call en80 (.cons rfl .nil) rfl (arrayErr_p _)) ?_ | refine rg_q (q_callF en80 (.cons (by first | exact .d _ | exact .rs rfl | exact .ref rfl | exact .nil _ | exact .tref rfl (by repeat (first | exact .nil | refine .cons (.d _ rfl) ?_ | refine .cons (.rs rfl) ?_))) .nil) rfl (arrayErr_p _) (by first | exact .v _ | exact D.Flat.tupF (by repeat first | exact trivial | refine ⟨.v _, ?_⟩) | exact D.Flat.aggF (by repeat first | exact trivial | refine ⟨.v _, ?_⟩))) ?_
  refine rg_q (q_assign (x := .d (.v _)) rfl) ?_
  refine rg_nil ?_
  refine aops_nil ?_
  change Awp _ _ _ _ _
  refine awp_seq ?_
  refine awp_seq ?_
  refine awp_region 2 mixed (by kernel_rfl) ?_
  refine rg_q (q_move (x := .d (.v _)) rfl) ?_
  refine rg_q (q_eql rfl rfl) ?_
  refine rg_nil ?_
  refine aops_nil ?_
  change Awp _ _ _ _ _
  refine awp_cond rfl (fun hc2 => ?_) (fun hc2 => ?_)
  ·
    (try simp only [decide_eq_true_eq, decide_eq_false_iff_not, Bool.and_eq_true, Bool.or_eq_true, Bool.and_eq_false_iff, Bool.or_eq_false_iff, Bool.not_eq_true', Bool.not_eq_false', Bool.not_true, Bool.not_false, bif_and, bif_or, Bool.not_not, ne_eq, Decidable.not_not, not_true_eq_false, not_false_eq_true, Int.not_le, Int.not_lt] at hc2)
    refine awp_region 4 mixed (by kernel_rfl) ?_
    first | refine rg_q (q_loadA (ds := [_, _, _, _, _, _]) sz26 rfl rfl rfl) ?_ | refine rg_q (q_load_refA (ds := [_, _, _, _, _, _]) sz26 rfl rfl rfl rfl) ?_
    first | refine rg_q (q_loadA (ds := [_, _]) sz28 rfl rfl rfl) ?_ | refine rg_q (q_load_refA (ds := [_, _]) sz28 rfl rfl rfl rfl) ?_
    first | refine rg_q (q_call en81 (.cons rfl (.cons rfl .nil)) rfl (placeErr_p a p t1 t2)) ?_ | refine rg_q (q_callF en81 (.cons (by first | exact .d _ | exact .rs rfl | exact .ref rfl | exact .nil _ | exact .tref rfl (by repeat (first | exact .nil | refine .cons (.d _ rfl) ?_ | refine .cons (.rs rfl) ?_))) (.cons (by first | exact .d _ | exact .rs rfl | exact .ref rfl | exact .nil _ | exact .tref rfl (by repeat (first | exact .nil | refine .cons (.d _ rfl) ?_ | refine .cons (.rs rfl) ?_))) .nil)) rfl (placeErr_p a p t1 t2) (by first | exact .v _ | exact D.Flat.tupF (by repeat first | exact trivial | refine ⟨.v _, ?_⟩) | exact D.Flat.aggF (by repeat first | exact trivial | refine ⟨.v _, ?_⟩))) ?_
    refine rg_q (q_assign (x := .d (.v _)) rfl) ?_
    refine rg_nil ?_
    refine aops_nil ?_
    change Awp _ _ _ _ _
    refine awp_seq ?_
    refine awp_block ?_
    refine awp_seq ?_
    refine awp_region 3 mixed (by kernel_rfl) ?_
    refine rg_q (q_move (x := .d (.v _)) rfl) ?_
    refine rg_q (q_neq rfl rfl) ?_
    refine rg_q (q_assign (x := .d (.v _)) rfl) ?_
    refine rg_nil ?_
    refine aops_nil ?_
    change Awp _ _ _ _ _
    refine awp_cond rfl (fun hc4 => ?_) (fun hc4 => ?_)
    ·
      exact absurd hp (of_decide_eq_true hc4)
    ·
      (try simp only [decide_eq_true_eq, decide_eq_false_iff_not, Bool.and_eq_true, Bool.or_eq_true, Bool.and_eq_false_iff, Bool.or_eq_false_iff, Bool.not_eq_true', Bool.not_eq_false', Bool.not_true, Bool.not_false, bif_and, bif_or, Bool.not_not, ne_eq, Decidable.not_not, not_true_eq_false, not_false_eq_true, Int.not_le, Int.not_lt] at hc4)
      refine awp_seq ?_
      refine awp_region 5 mixed (by kernel_rfl) ?_
      first | refine rg_q (q_fieldAddr fld106_0 rfl) ?_ | refine rg_q (q_fieldAddr_ref fld106_0 rfl) ?_
      first | refine rg_q (q_load sz31 rfl rfl) ?_ | refine rg_q (q_load_ref sz31 rfl rfl rfl) ?_ | refine rg_q (q_load_tb (x := .d _) sz31 rfl rfl rfl) ?_ | refine rg_q (q_load_tb (x := .rs _) sz31 rfl rfl rfl) ?_
      first | refine rg_q (q_len isl31 rfl (by first | exact len_map _ _ | rfl)) ?_ | refine rg_q (q_len_rs isl31 rfl rfl) ?_ | refine rg_q (q_len_nil isl31 rfl) ?_
      refine rg_q (q_eql rfl rfl) ?_
      refine rg_q (q_assign (x := .d (.v _)) rfl) ?_
      refine rg_nil ?_
      refine aops_nil ?_
      change Awp _ _ _ _ _
      first | refine awp_len (t := 31) rfl (fun hl31 => ?_) | skip
      (try simp only [List.length_map] at hl31)
      refine awp_cond rfl (fun hc6 => ?_) (fun hc6 => ?_)
      ·
        (try simp only [decide_eq_true_eq, decide_eq_false_iff_not, Bool.and_eq_true, Bool.or_eq_true, Bool.and_eq_false_iff, Bool.or_eq_false_iff, Bool.not_eq_true', Bool.not_eq_false', Bool.not_true, Bool.not_false, bif_and, bif_or, Bool.not_not, ne_eq, Decidable.not_not, not_true_eq_false, not_false_eq_true, Int.not_le, Int.not_lt] at hc6)
        try simp only [List.length_map] at hc6
        rw [if_pos hc6] at hu
        refine awp_seq ?_
        refine awp_region 0 mixed (by kernel_rfl) ?_
        refine rg_nil ?_
        first | refine aops_store sz3 rfl rfl (by first | exact .inl rfl | exact .inr ⟨_, rfl⟩) rfl rfl (by first | decide | simp; done | exact Nat.le_of_ble_eq_true rfl) rfl ?_ | refine aops_storeT (z := .rs _) sz3 rfl rfl rfl rfl (by first | decide | simp) rfl ?_ | refine aops_storeT (z := .d _) sz3 rfl rfl rfl rfl (by first | decide | simp) rfl ?_ | refine aops_storeTA sz3 rfl rfl (by first | exact .inl rfl | exact .inr ⟨_, rfl⟩) rfl rfl (by first | decide | simp) rfl ?_
        first | refine aops_store sz34 rfl rfl (by first | exact .inl rfl | exact .inr ⟨_, rfl⟩) rfl rfl (by first | decide | simp; done | exact Nat.le_of_ble_eq_true rfl) rfl ?_ | refine aops_storeT (z := .rs _) sz34 rfl rfl rfl rfl (by first | decide | simp) rfl ?_ | refine aops_storeT (z := .d _) sz34 rfl rfl rfl rfl (by first | decide | simp) rfl ?_ | refine aops_storeTA sz34 rfl rfl (by first | exact .inl rfl | exact .inr ⟨_, rfl⟩) rfl rfl (by first | decide | simp) rfl ?_
        refine aops_nil ?_
        change Awp _ _ _ _ _
        refine awp_ret ?_
        refine ⟨_, (.cons (.cell1 rfl rfl sz3) (.cons (.cell1 rfl rfl sz34) .nil)), ?_⟩
        rw [hz, hu]; rfl
      ·
        (try simp only [decide_eq_true_eq, decide_eq_false_iff_not, Bool.and_eq_true, Bool.or_eq_true, Bool.and_eq_false_iff, Bool.or_eq_false_iff, Bool.not_eq_true', Bool.not_eq_false', Bool.not_true, Bool.not_false, bif_and, bif_or, Bool.not_not, ne_eq, Decidable.not_not, not_true_eq_false, not_false_eq_true, Int.not_le, Int.not_lt] at hc6)
        try simp only [List.length_map] at hc6
        rw [if_neg hc6] at hu
        refine awp_seq ?_
        refine awp_region 5 mixed (by kernel_rfl) ?_
        first | refine rg_q (q_fieldAddr fld106_0 rfl) ?_ | refine rg_q (q_fieldAddr_ref fld106_0 rfl) ?_
        first | refine rg_q (q_load sz31 rfl rfl) ?_ | refine rg_q (q_load_ref sz31 rfl rfl rfl) ?_ | refine rg_q (q_load_tb (x := .d _) sz31 rfl rfl rfl) ?_ | refine rg_q (q_load_tb (x := .rs _) sz31 rfl rfl rfl) ?_
        first | refine rg_q (q_len isl31 rfl (by first | exact len_map _ _ | rfl)) ?_ | refine rg_q (q_len_rs isl31 rfl rfl) ?_ | refine rg_q (q_len_nil isl31 rfl) ?_
        refine rg_q (q_gtr rfl rfl) ?_
        refine rg_q (q_assign (x := .d (.v _)) rfl) ?_
        refine rg_nil ?_
        refine aops_nil ?_
        change Awp _ _ _ _ _
        first | refine awp_len (t := 36) rfl (fun hl36 => ?_) | skip
        (try simp only [List.length_map] at hl36)
        refine awp_cond rfl (fun hc8 => ?_) (fun hc8 => ?_)
        ·
          (try simp only [decide_eq_true_eq, decide_eq_false_iff_not, Bool.and_eq_true, Bool.or_eq_true, Bool.and_eq_false_iff, Bool.or_eq_false_iff, Bool.not_eq_true', Bool.not_eq_false', Bool.not_true, Bool.not_false, bif_and, bif_or, Bool.not_not, ne_eq, Decidable.not_not, not_true_eq_false, not_false_eq_true, Int.not_le, Int.not_lt] at hc8)
          try simp only [List.length_map] at hc8
          rw [if_pos hc8] at hu
          refine awp_seq ?_
          refine awp_region 0 mixed (by kernel_rfl) ?_
          refine rg_nil ?_
          first | refine aops_store sz3 rfl rfl (by first | exact .inl rfl | exact .inr ⟨_, rfl⟩) rfl rfl (by first | decide | simp; done | exact Nat.le_of_ble_eq_true rfl) rfl ?_ | refine aops_storeT (z := .rs _) sz3 rfl rfl rfl rfl (by first | decide | simp) rfl ?_ | refine aops_storeT (z := .d _) sz3 rfl rfl rfl rfl (by first | decide | simp) rfl ?_ | refine aops_storeTA sz3 rfl rfl (by first | exact .inl rfl | exact .inr ⟨_, rfl⟩) rfl rfl (by first | decide | simp) rfl ?_
          first | refine aops_store sz34 rfl rfl (by first | exact .inl rfl | exact .inr ⟨_, rfl⟩) rfl rfl (by first | decide | simp; done | exact Nat.le_of_ble_eq_true rfl) rfl ?_ | refine aops_storeT (z := .rs _) sz34 rfl rfl rfl rfl (by first | decide | simp) rfl ?_ | refine aops_storeT (z := .d _) sz34 rfl rfl rfl rfl (by first | decide | simp) rfl ?_ | refine aops_storeTA sz34 rfl rfl (by first | exact .inl rfl | exact .inr ⟨_, rfl⟩) rfl rfl (by first | decide | simp) rfl ?_
          refine aops_nil ?_
          change Awp _ _ _ _ _
          refine awp_ret ?_
          refine ⟨_, (.cons (.cell1 rfl rfl sz3) (.cons (.cell1 rfl rfl sz34) .nil)), ?_⟩
          rw [hz, hu]; rfl
        ·
          (try simp only [decide_eq_true_eq, decide_eq_false_iff_not, Bool.and_eq_true, Bool.or_eq_true, Bool.and_eq_false_iff, Bool.or_eq_false_iff, Bool.not_eq_true', Bool.not_eq_false', Bool.not_true, Bool.not_false, bif_and, bif_or, Bool.not_not, ne_eq, Decidable.not_not, not_true_eq_false, not_false_eq_true, Int.not_le, Int.not_lt] at hc8)
          try simp only [List.length_map] at hc8
          have hl2 : l.length ≤ 1000 := by omega
          rw [if_neg (by omega)] at hu
          refine awp_skip ?_
          change Awp _ _ _ _ _
          refine awp_seq ?_
          refine awp_seq ?_
          refine awp_region 4 mixed (by kernel_rfl) ?_
          first | refine rg_q (q_fieldAddr fld106_0 rfl) ?_ | refine rg_q (q_fieldAddr_ref fld106_0 rfl) ?_
          first | refine rg_q (q_load sz31 rfl rfl) ?_ | refine rg_q (q_load_ref sz31 rfl rfl rfl) ?_ | refine rg_q (q_load_tb (x := .d _) sz31 rfl rfl rfl) ?_ | refine rg_q (q_load_tb (x := .rs _) sz31 rfl rfl rfl) ?_
          first | refine rg_q (q_len isl31 rfl (by first | exact len_map _ _ | rfl)) ?_ | refine rg_q (q_len_rs isl31 rfl rfl) ?_ | refine rg_q (q_len_nil isl31 rfl) ?_
          refine rg_q (q_move (x := .d (.v _)) rfl) ?_
          refine rg_nil ?_
          refine aops_nil ?_
          change Awp _ _ _ _ _
          first | refine awp_len (t := 40) rfl (fun hl40 => ?_) | skip
          (try simp only [List.length_map] at hl40)
          refine awp_block ?_
          refine awp_loopH [9, 10, 11, 42, 43, 44, 45, 46, 47, 48, 49, 50, 51, 52, 53, 54, 55, 56, 57, 58, 59, 60, 61, 62, 63, 64] [] (α := Nat) (fun k => [(42, T.i (k : Int))]) (fun k => []) (fun k => k ≤ l.length ∧ clkF 0 l = clkF (prvC l k) (l.drop k)) (fun k => l.length - k) 0 ⟨Nat.zero_le _, rfl⟩ ?_ ?_
          · exact le_head (ms := []) (by repeat (first | exact Out.refl _ | exact Out.head rfl rfl | (refine Out.put ?_ rfl) | (refine Out.site ?_ rfl) | (refine Out.putn ?_) | (refine Out.headIn ?_ rfl rfl rfl) | (refine Out.called ?_ rfl rfl))) ⟨(by first | rfl | (simp; done)), trivial⟩ trivial rfl rfl rfl rfl
          ·
            intro k ⟨hk, hf⟩
            refine awp_seq ?_
            refine awp_region 1 mixed (by kernel_rfl) ?_
            refine rg_q (q_lss rfl rfl) ?_
            refine rg_nil ?_
            refine aops_nil ?_
            change Awp _ _ _ _ _
            refine awp_seq ?_
            refine awp_cond rfl (fun hc11 => ?_) (fun hc11 => ?_)
            ·
              (try simp only [decide_eq_true_eq, decide_eq_false_iff_not, Bool.and_eq_true, Bool.or_eq_true, Bool.and_eq_false_iff, Bool.or_eq_false_iff, Bool.not_eq_true', Bool.not_eq_false', Bool.not_true, Bool.not_false, bif_and, bif_or, Bool.not_not, ne_eq, Decidable.not_not, not_true_eq_false, not_false_eq_true, Int.not_le, Int.not_lt] at hc11)
              have hlt : k < l.length := by omega
              obtain ⟨y, hx⟩ : ∃ y, l[k]? = some y := ⟨_, List.getElem?_eq_getElem hlt⟩
              obtain ⟨z, hp1⟩ : ∃ z, 0 < k → l[k - 1]? = some z := ⟨l.getD (k - 1) 0, fun h => by rw [List.getD_eq_getElem?_getD, List.getElem?_eq_getElem (by omega)]; rfl⟩
              have hd := clkF_at hx
              refine awp_skip ?_
              change Awp _ _ _ _ _
              refine awp_seq ?_
              refine awp_block ?_
              refine awp_seq ?_
              refine awp_region 5 mixed (by kernel_rfl) ?_
              refine rg_q (q_move (x := .d (.v _)) rfl) ?_
              first | refine rg_q (q_indexAddr sl31 rfl rfl (by omega) (map_at (by omega) hx)) ?_ | refine rg_q (q_indexAddr_rs sl31 rfl rfl rfl (by omega) (by omega)) ?_
              first | refine rg_q (q_load sz3 rfl rfl) ?_ | refine rg_q (q_load_ref sz3 rfl rfl rfl) ?_ | refine rg_q (q_load_tb (x := .d _) sz3 rfl rfl rfl) ?_ | refine rg_q (q_load_tb (x := .rs _) sz3 rfl rfl rfl) ?_
              refine rg_q (q_assign (x := .d (.v _)) rfl) ?_
              refine rg_q (q_assign (x := .d (.v _)) rfl) ?_
              refine rg_nil ?_
              refine aops_nil ?_
              change Awp _ _ _ _ _
              refine awp_seq ?_
              refine awp_seq ?_
              refine awp_region 3 mixed (by kernel_rfl) ?_
              refine rg_q (q_move (x := .d (.v _)) rfl) ?_
              first | refine rg_q (q_call en98 (.cons rfl .nil) rfl (clockErr_p _)) ?_ | refine rg_q (q_callF en98 (.cons (by first | exact .d _ | exact .rs rfl | exact .ref rfl | exact .nil _ | exact .tref rfl (by repeat (first | exact .nil | refine .cons (.d _ rfl) ?_ | refine .cons (.rs rfl) ?_))) .nil) rfl (clockErr_p _) (by first | exact .v _ | exact D.Flat.tupF (by repeat first | exact trivial | refine ⟨.v _, ?_⟩) | exact D.Flat.aggF (by repeat first | exact trivial | refine ⟨.v _, ?_⟩))) ?_
              refine rg_q (q_assign (x := .d (.v _)) rfl) ?_
              refine rg_nil ?_
              refine aops_nil ?_
              change Awp _ _ _ _ _
              refine awp_seq ?_
              refine awp_region 2 mixed (by kernel_rfl) ?_
              refine rg_q (q_move (x := .d (.v _)) rfl) ?_
              refine rg_q (q_neq rfl rfl) ?_
              refine rg_nil ?_
              refine aops_nil ?_
              change Awp _ _ _ _ _
              refine awp_cond rfl (fun hc14 => ?_) (fun hc14 => ?_)
              ·
                (try simp only [decide_eq_true_eq, decide_eq_false_iff_not, Bool.and_eq_true, Bool.or_eq_true, Bool.and_eq_false_iff, Bool.or_eq_false_iff, Bool.not_eq_true', Bool.not_eq_false', Bool.not_true, Bool.not_false, bif_and, bif_or, Bool.not_not, ne_eq, Decidable.not_not, not_true_eq_false, not_false_eq_true, Int.not_le, Int.not_lt] at hc14)
                have he : clkF 0 l = clkE y := by rw [hf, hd, if_pos hc14]
                rw [he, if_pos hc14] at hu
                refine awp_seq ?_
                refine awp_region 1 mixed (by kernel_rfl) ?_
                refine rg_q (q_move (x := .d (.v _)) rfl) ?_
                refine rg_nil ?_
                first | refine aops_store sz3 rfl rfl (by first | exact .inl rfl | exact .inr ⟨_, rfl⟩) rfl rfl (by first | decide | simp; done | exact Nat.le_of_ble_eq_true rfl) rfl ?_ | refine aops_storeT (z := .rs _) sz3 rfl rfl rfl rfl (by first | decide | simp) rfl ?_ | refine aops_storeT (z := .d _) sz3 rfl rfl rfl rfl (by first | decide | simp) rfl ?_ | refine aops_storeTA sz3 rfl rfl (by first | exact .inl rfl | exact .inr ⟨_, rfl⟩) rfl rfl (by first | decide | simp) rfl ?_
                first | refine aops_store sz34 rfl rfl (by first | exact .inl rfl | exact .inr ⟨_, rfl⟩) rfl rfl (by first | decide | simp; done | exact Nat.le_of_ble_eq_true rfl) rfl ?_ | refine aops_storeT (z := .rs _) sz34 rfl rfl rfl rfl (by first | decide | simp) rfl ?_ | refine aops_storeT (z := .d _) sz34 rfl rfl rfl rfl (by first | decide | simp) rfl ?_ | refine aops_storeTA sz34 rfl rfl (by first | exact .inl rfl | exact .inr ⟨_, rfl⟩) rfl rfl (by first | decide | simp) rfl ?_
                refine aops_nil ?_
                change Awp _ _ _ _ _
                refine awp_ret ?_
                refine ⟨_, (.cons (.cell1 rfl rfl sz3) (.cons (.cell1 rfl rfl sz34) .nil)), ?_⟩
                rw [hz, hu]; rfl
              ·
                (try simp only [decide_eq_true_eq, decide_eq_false_iff_not, Bool.and_eq_true, Bool.or_eq_true, Bool.and_eq_false_iff, Bool.or_eq_false_iff, Bool.not_eq_true', Bool.not_eq_false', Bool.not_true, Bool.not_false, bif_and, bif_or, Bool.not_not, ne_eq, Decidable.not_not, not_true_eq_false, not_false_eq_true, Int.not_le, Int.not_lt] at hc14)
                have he1 : clkE y = 0 := by simpa using hc14
                obtain ⟨g1, g2⟩ := clkE_ok he1
                refine awp_skip ?_
                change Awp _ _ _ _ _
                refine awp_seq ?_
                refine awp_region 12 mixed (by kernel_rfl) ?_
                refine rg_q (q_move (x := .d (.v _)) rfl) ?_
                refine rg_q (q_gtr rfl rfl) ?_
                refine rg_q (q_move (x := .d (.v _)) rfl) ?_
                refine rg_g rfl rfl (fun hG => (q_move (x := .d (.v _)) rfl)) ?_
                first | refine rg_g rfl rfl (fun hG => (q_fieldAddr fld106_0 rfl)) ?_ | refine rg_g rfl rfl (fun hG => (q_fieldAddr_ref fld106_0 rfl)) ?_
                first | refine rg_g rfl rfl (fun hG => (q_load sz31 rfl rfl)) ?_ | refine rg_g rfl rfl (fun hG => (q_load_ref sz31 rfl rfl rfl)) ?_ | refine rg_g rfl rfl (fun hG => (q_load_tb (x := .d _) sz31 rfl rfl rfl)) ?_ | refine rg_g rfl rfl (fun hG => (q_load_tb (x := .rs _) sz31 rfl rfl rfl)) ?_
                refine rg_g rfl rfl (fun hG => (q_move (x := .d (.v _)) rfl)) ?_
                refine rg_g rfl rfl (fun hG => (q_sub rfl rfl (In64.mk (by (have hg0 := T.bool_inj (a := _) hG.1; (try simp only [decide_eq_true_eq, decide_eq_false_iff_not, Bool.and_eq_true, Bool.or_eq_true, Bool.and_eq_false_iff, Bool.or_eq_false_iff, Bool.not_eq_true', Bool.not_eq_false', Bool.not_true, Bool.not_false, bif_and, bif_or, Bool.not_not, ne_eq, Decidable.not_not, not_true_eq_false, not_false_eq_true, Int.not_le, Int.not_lt] at hg0); omega)) (by (have hg0 := T.bool_inj (a := _) hG.1; (try simp only [decide_eq_true_eq, decide_eq_false_iff_not, Bool.and_eq_true, Bool.or_eq_true, Bool.and_eq_false_iff, Bool.or_eq_false_iff, Bool.not_eq_true', Bool.not_eq_false', Bool.not_true, Bool.not_false, bif_and, bif_or, Bool.not_not, ne_eq, Decidable.not_not, not_true_eq_false, not_false_eq_true, Int.not_le, Int.not_lt] at hg0); omega))))) ?_
                first | refine rg_g rfl rfl (fun hG => (q_indexAddr sl31 rfl rfl (by (have hg0 := T.bool_inj (a := _) hG.1; (try simp only [decide_eq_true_eq, decide_eq_false_iff_not, Bool.and_eq_true, Bool.or_eq_true, Bool.and_eq_false_iff, Bool.or_eq_false_iff, Bool.not_eq_true', Bool.not_eq_false', Bool.not_true, Bool.not_false, bif_and, bif_or, Bool.not_not, ne_eq, Decidable.not_not, not_true_eq_false, not_false_eq_true, Int.not_le, Int.not_lt] at hg0); omega)) (map_at (k := k - 1) (by (have hg0 := T.bool_inj (a := _) hG.1; (try simp only [decide_eq_true_eq, decide_eq_false_iff_not, Bool.and_eq_true, Bool.or_eq_true, Bool.and_eq_false_iff, Bool.or_eq_false_iff, Bool.not_eq_true', Bool.not_eq_false', Bool.not_true, Bool.not_false, bif_and, bif_or, Bool.not_not, ne_eq, Decidable.not_not, not_true_eq_false, not_false_eq_true, Int.not_le, Int.not_lt] at hg0); omega)) (hp1 (by (have hg0 := T.bool_inj (a := _) hG.1; (try simp only [decide_eq_true_eq, decide_eq_false_iff_not, Bool.and_eq_true, Bool.or_eq_true, Bool.and_eq_false_iff, Bool.or_eq_false_iff, Bool.not_eq_true', Bool.not_eq_false', Bool.not_true, Bool.not_false, bif_and, bif_or, Bool.not_not, ne_eq, Decidable.not_not, not_true_eq_false, not_false_eq_true, Int.not_le, Int.not_lt] at hg0); omega)))))) ?_ | refine rg_g rfl rfl (fun hG => (q_indexAddr_rs sl31 rfl rfl rfl (by (have hg0 := T.bool_inj (a := _) hG.1; (try simp only [decide_eq_true_eq, decide_eq_false_iff_not, Bool.and_eq_true, Bool.or_eq_true, Bool.and_eq_false_iff, Bool.or_eq_false_iff, Bool.not_eq_true', Bool.not_eq_false', Bool.not_true, Bool.not_false, bif_and, bif_or, Bool.not_not, ne_eq, Decidable.not_not, not_true_eq_false, not_false_eq_true, Int.not_le, Int.not_lt] at hg0); omega)) (by (have hg0 := T.bool_inj (a := _) hG.1; (try simp only [decide_eq_true_eq, decide_eq_false_iff_not, Bool.and_eq_true, Bool.or_eq_true, Bool.and_eq_false_iff, Bool.or_eq_false_iff, Bool.not_eq_true', Bool.not_eq_false', Bool.not_true, Bool.not_false, bif_and, bif_or, Bool.not_not, ne_eq, Decidable.not_not, not_true_eq_false, not_false_eq_true, Int.not_le, Int.not_lt] at hg0); omega)))) ?_
                first | refine rg_g rfl rfl (fun hG => (q_load sz3 rfl rfl)) ?_ | refine rg_g rfl rfl (fun hG => (q_load_ref sz3 rfl rfl rfl)) ?_ | refine rg_g rfl rfl (fun hG => (q_load_tb (x := .d _) sz3 rfl rfl rfl)) ?_ | refine rg_g rfl rfl (fun hG => (q_load_tb (x := .rs _) sz3 rfl rfl rfl)) ?_
                refine rg_g rfl rfl (fun hG => (q_leq rfl rfl)) ?_
                first | refine rg_pick rfl rfl rfl rfl rfl rfl ?_ | refine rg_q (q_pick rfl rfl rfl) ?_
                refine rg_nil ?_
                refine aops_nil ?_
                change Awp _ _ _ _ _
                refine awp_cond rfl (fun hc16 => ?_) (fun hc16 => ?_)
                ·
                  (try simp only [decide_eq_true_eq, decide_eq_false_iff_not, Bool.and_eq_true, Bool.or_eq_true, Bool.and_eq_false_iff, Bool.or_eq_false_iff, Bool.not_eq_true', Bool.not_eq_false', Bool.not_true, Bool.not_false, bif_and, bif_or, Bool.not_not, ne_eq, Decidable.not_not, not_true_eq_false, not_false_eq_true, Int.not_le, Int.not_lt] at hc16)
                  have he : clkF 0 l = 9 := by rw [hf, hd, if_neg (fun q => q he1), if_pos (by unfold prvC; rw [if_neg (by omega), List.getD_eq_getElem?_getD, hp1 (by omega)]; exact hc16.2)]
                  rw [he, if_pos (by simp)] at hu
                  refine awp_seq ?_
                  refine awp_region 0 mixed (by kernel_rfl) ?_
                  refine rg_nil ?_
                  first | refine aops_store sz3 rfl rfl (by first | exact .inl rfl | exact .inr ⟨_, rfl⟩) rfl rfl (by first | decide | simp; done | exact Nat.le_of_ble_eq_true rfl) rfl ?_ | refine aops_storeT (z := .rs _) sz3 rfl rfl rfl rfl (by first | decide | simp) rfl ?_ | refine aops_storeT (z := .d _) sz3 rfl rfl rfl rfl (by first | decide | simp) rfl ?_ | refine aops_storeTA sz3 rfl rfl (by first | exact .inl rfl | exact .inr ⟨_, rfl⟩) rfl rfl (by first | decide | simp) rfl ?_
                  first | refine aops_store sz34 rfl rfl (by first | exact .inl rfl | exact .inr ⟨_, rfl⟩) rfl rfl (by first | decide | simp; done | exact Nat.le_of_ble_eq_true rfl) rfl ?_ | refine aops_storeT (z := .rs _) sz34 rfl rfl rfl rfl (by first | decide | simp) rfl ?_ | refine aops_storeT (z := .d _) sz34 rfl rfl rfl rfl (by first | decide | simp) rfl ?_ | refine aops_storeTA sz34 rfl rfl (by first | exact .inl rfl | exact .inr ⟨_, rfl⟩) rfl rfl (by first | decide | simp) rfl ?_
                  refine aops_nil ?_
                  change Awp _ _ _ _ _
                  refine awp_ret ?_
                  refine ⟨_, (.cons (.cell1 rfl rfl sz3) (.cons (.cell1 rfl rfl sz34) .nil)), ?_⟩
                  rw [hz, hu]; rfl
                ·
                  (try simp only [decide_eq_true_eq, decide_eq_false_iff_not, Bool.and_eq_true, Bool.or_eq_true, Bool.and_eq_false_iff, Bool.or_eq_false_iff, Bool.not_eq_true', Bool.not_eq_false', Bool.not_true, Bool.not_false, bif_and, bif_or, Bool.not_not, ne_eq, Decidable.not_not, not_true_eq_false, not_false_eq_true, Int.not_le, Int.not_lt] at hc16)
                  have hnl : ¬ y ≤ prvC l k := by
                    unfold prvC
                    by_cases e : k = 0
                    · rw [if_pos e]; omega
                    · rw [if_neg e, List.getD_eq_getElem?_getD, hp1 (by omega)]
                      intro h
                      have h : y ≤ z := h
                      first | (simp_all; done) | (simp_all; omega) | omega
                  have hdn : clkF 0 l = clkF (prvC l (k + 1)) (l.drop (k + 1)) := by rw [hf, hd, if_neg (fun q => q he1), if_neg hnl]
                  refine awp_skip ?_
                  change Awp _ _ _ _ _
                  refine awp_region 2 mixed (by kernel_rfl) ?_
                  refine rg_q (q_add rfl rfl (In64.mk (by omega) (by omega))) ?_
                  refine rg_q (q_move (x := .d (.v _)) rfl) ?_
                  refine rg_nil ?_
                  refine aops_nil ?_
                  refine ⟨k + 1, ⟨by omega, hdn⟩, by omega, ?_⟩
                  exact le_head (ms := []) (by repeat (first | exact Out.refl _ | exact Out.head rfl rfl | (refine Out.put ?_ rfl) | (refine Out.site ?_ rfl) | (refine Out.putn ?_) | (refine Out.headIn ?_ rfl rfl rfl) | (refine Out.called ?_ rfl rfl))) ⟨(by first | rfl | (simp; done)), trivial⟩ trivial rfl rfl rfl rfl
            ·
              (try simp only [decide_eq_true_eq, decide_eq_false_iff_not, Bool.and_eq_true, Bool.or_eq_true, Bool.and_eq_false_iff, Bool.or_eq_false_iff, Bool.not_eq_true', Bool.not_eq_false', Bool.not_true, Bool.not_false, bif_and, bif_or, Bool.not_not, ne_eq, Decidable.not_not, not_true_eq_false, not_false_eq_true, Int.not_le, Int.not_lt] at hc11)
              have hkl : k = l.length := by omega
              have he0 : clkF 0 l = 0 := by rw [hf, hkl, List.drop_length]; rfl
              rw [if_neg (fun q => q he0)] at hu
              refine awp_exit ?_
              change Awp _ _ _ _ _
              refine awp_seq ?_
              refine awp_seq ?_
              refine awp_region 4 mixed (by kernel_rfl) ?_
              first | refine rg_q (q_fieldAddr fld106_1 rfl) ?_ | refine rg_q (q_fieldAddr_ref fld106_1 rfl) ?_
              first | refine rg_q (q_load sz3 rfl rfl) ?_ | refine rg_q (q_load_ref sz3 rfl rfl rfl) ?_ | refine rg_q (q_load_tb (x := .d _) sz3 rfl rfl rfl) ?_ | refine rg_q (q_load_tb (x := .rs _) sz3 rfl rfl rfl) ?_
              first | refine rg_q (q_call en91 (.cons rfl (.cons rfl (.cons rfl .nil))) rfl (lwithin_p _ _ _)) ?_ | refine rg_q (q_callF en91 (.cons (by first | exact .d _ | exact .rs rfl | exact .ref rfl | exact .nil _ | exact .tref rfl (by repeat (first | exact .nil | refine .cons (.d _ rfl) ?_ | refine .cons (.rs rfl) ?_))) (.cons (by first | exact .d _ | exact .rs rfl | exact .ref rfl | exact .nil _ | exact .tref rfl (by repeat (first | exact .nil | refine .cons (.d _ rfl) ?_ | refine .cons (.rs rfl) ?_))) (.cons (by first | exact .d _ | exact .rs rfl | exact .ref rfl | exact .nil _ | exact .tref rfl (by repeat (first | exact .nil | refine .cons (.d _ rfl) ?_ | refine .cons (.rs rfl) ?_))) .nil))) rfl (lwithin_p _ _ _) (by first | exact .v _ | exact D.Flat.tupF (by repeat first | exact trivial | refine ⟨.v _, ?_⟩) | exact D.Flat.aggF (by repeat first | exact trivial | refine ⟨.v _, ?_⟩))) ?_
              refine rg_q (q_not rfl) ?_
              refine rg_nil ?_
              refine aops_nil ?_
              change Awp _ _ _ _ _
              refine awp_cond rfl (fun hc19 => ?_) (fun hc19 => ?_)
              ·
                (try simp only [decide_eq_true_eq, decide_eq_false_iff_not, Bool.and_eq_true, Bool.or_eq_true, Bool.and_eq_false_iff, Bool.or_eq_false_iff, Bool.not_eq_true', Bool.not_eq_false', Bool.not_true, Bool.not_false, bif_and, bif_or, Bool.not_not, ne_eq, Decidable.not_not, not_true_eq_false, not_false_eq_true, Int.not_le, Int.not_lt] at hc19)
                rw [if_pos (by simpa using hc19)] at hu
                refine awp_seq ?_
                refine awp_region 0 mixed (by kernel_rfl) ?_
                refine rg_nil ?_
                first | refine aops_store sz3 rfl rfl (by first | exact .inl rfl | exact .inr ⟨_, rfl⟩) rfl rfl (by first | decide | simp; done | exact Nat.le_of_ble_eq_true rfl) rfl ?_ | refine aops_storeT (z := .rs _) sz3 rfl rfl rfl rfl (by first | decide | simp) rfl ?_ | refine aops_storeT (z := .d _) sz3 rfl rfl rfl rfl (by first | decide | simp) rfl ?_ | refine aops_storeTA sz3 rfl rfl (by first | exact .inl rfl | exact .inr ⟨_, rfl⟩) rfl rfl (by first | decide | simp) rfl ?_
                first | refine aops_store sz34 rfl rfl (by first | exact .inl rfl | exact .inr ⟨_, rfl⟩) rfl rfl (by first | decide | simp; done | exact Nat.le_of_ble_eq_true rfl) rfl ?_ | refine aops_storeT (z := .rs _) sz34 rfl rfl rfl rfl (by first | decide | simp) rfl ?_ | refine aops_storeT (z := .d _) sz34 rfl rfl rfl rfl (by first | decide | simp) rfl ?_ | refine aops_storeTA sz34 rfl rfl (by first | exact .inl rfl | exact .inr ⟨_, rfl⟩) rfl rfl (by first | decide | simp) rfl ?_
                refine aops_nil ?_
                change Awp _ _ _ _ _
                refine awp_ret ?_
                refine ⟨_, (.cons (.cell1 rfl rfl sz3) (.cons (.cell1 rfl rfl sz34) .nil)), ?_⟩
                rw [hz, hu]; rfl
              ·
                (try simp only [decide_eq_true_eq, decide_eq_false_iff_not, Bool.and_eq_true, Bool.or_eq_true, Bool.and_eq_false_iff, Bool.or_eq_false_iff, Bool.not_eq_true', Bool.not_eq_false', Bool.not_true, Bool.not_false, bif_and, bif_or, Bool.not_not, ne_eq, Decidable.not_not, not_true_eq_false, not_false_eq_true, Int.not_le, Int.not_lt] at hc19)
                have hm : inR 0 m 1000000000000 = true := by simpa using hc19
                rw [if_neg (by rw [hm]; simp)] at hu
                refine awp_skip ?_
                change Awp _ _ _ _ _
                refine awp_seq ?_
                refine awp_seq ?_
                refine awp_region 3 mixed (by kernel_rfl) ?_
                first | refine rg_q (q_fieldAddr fld106_0 rfl) ?_ | refine rg_q (q_fieldAddr_ref fld106_0 rfl) ?_
                first | refine rg_q (q_load sz31 rfl rfl) ?_ | refine rg_q (q_load_ref sz31 rfl rfl rfl) ?_ | refine rg_q (q_load_tb (x := .d _) sz31 rfl rfl rfl) ?_ | refine rg_q (q_load_tb (x := .rs _) sz31 rfl rfl rfl) ?_
                first | refine rg_q (q_call en117 (.cons rfl .nil) rfl (backward_p _)) ?_ | refine rg_q (q_callF en117 (.cons (by first | exact .d _ | exact .rs rfl | exact .ref rfl | exact .nil _ | exact .tref rfl (by repeat (first | exact .nil | refine .cons (.d _ rfl) ?_ | refine .cons (.rs rfl) ?_))) .nil) rfl (backward_p _) (by first | exact .v _ | exact D.Flat.tupF (by repeat first | exact trivial | refine ⟨.v _, ?_⟩) | exact D.Flat.aggF (by repeat first | exact trivial | refine ⟨.v _, ?_⟩))) ?_
                refine rg_nil ?_
                refine aops_nil ?_
                change Awp _ _ _ _ _
                refine awp_block ?_
                refine awp_rangeC (α := Int × Int) (β := Nat × Int × Int) (n := 102) (enc := fun p : Int × Int => [.v (.int .i64 p.1), .v (.int .i64 p.2)]) (items := bwdTo l l.length) 1000 [(3, .ref 3 0), (4, .d (.pt (shC p) 0)), (5, .d (.pt [.sl 1 (l.map iC), .v (.int .i64 (m))] 0)), (6, .ref 6 0), (7, .ref 7 0), (71, .d (.fn (.func 148) [.pt [.sl 1 (l.map iC)] 0]))] (fun q => [(3, .box (larC ⟨a.el, a.md, q.2.1⟩)), (6, .box [.v (.int .i64 (q.2.2))]), (7, .box [.v (.int .i64 (0))])]) (fun k q => q.1 = k ∧ k ≤ l.length ∧ q.2.2 = 0 ∧ crsK a p m l l.length = crsK a p m l (l.length - k)) (fun e q => e = Exit.ret ∧ crsK a p m l l.length = (q.2.2, 0)) (0, a.ck, 0) hrnd ?_ (.inr ⟨rfl, rfl⟩) en148 (backward_i l hl2) rfl (fun _ => rfl) rfl (fun _ => by repeat first | exact trivial | refine ⟨by first | exact .v _ | exact D.Flat.aggF (by repeat first | exact trivial | refine ⟨.v _, ?_⟩), ?_⟩) (fun _ => rfl) ⟨rfl, Nat.zero_le _, rfl, rfl⟩ (fun h => by cases h) ?_ ?_ ?_
                · exact le_cst (fun k => k) _ _ rfl ⟨rfl, rfl, rfl, rfl, rfl, rfl, trivial⟩ ⟨rfl, rfl, rfl, trivial⟩ rfl (fun k b h => by rw [hpn k] at h; cases h)
                ·
                  intro w1 hw1 k q y hI hy
                  obtain ⟨h1, hk, hv0, hf⟩ := hI
                  obtain ⟨j, c0, v0⟩ := q
                  simp only at h1 hv0
                  subst h1 hv0
                  have hql : j < l.length := by have := (List.getElem?_eq_some_iff.1 hy).1; rw [bwd_len] at this; exact this
                  rw [bwd_at hql] at hy
                  obtain ⟨c, hx⟩ : ∃ c, l[l.length - 1 - j]? = some c := ⟨_, List.getElem?_eq_getElem (by omega)⟩
                  have hyc : y = ((l.length : Int) - 1 - (j : Int), c) := by have := (Option.some.inj hy).symm; rw [List.getD_eq_getElem?_getD, hx] at this; exact this
                  subst hyc
                  have hcv : clkE c = 0 := clkF_ok he0 c (List.mem_of_getElem? hx)
                  obtain ⟨g1, g2⟩ := clkE_ok hcv
                  have hlw := wck_ok hla hcv
                  have hat := crsK_at (a := a) (p := p) (m := m) hx
                  have hpw : plcE (wck a c) p = 0 := hp
                  have hat2 : crsK a p m l (l.length - j) = if crsO a p m c then (c, 0) else crsK a p m l (l.length - (j + 1)) := by rw [show l.length - j = (l.length - 1 - j) + 1 by omega, hat, show l.length - 1 - j = l.length - (j + 1) by omega]
                  refine awp_region 1 mixed (by kernel_rfl) ?_
                  refine rg_q (q_assign (x := .d (.v _)) rfl) ?_
                  refine rg_nil ?_
                  refine aops_nil ?_
                  refine ⟨rfl, fun w2 hw2 => ?_⟩
                  refine awp_block ?_
                  refine awp_seq ?_
                  refine awp_region 2 mixed (by kernel_rfl) ?_
                  refine rg_q (q_move (x := .d (.v _)) rfl) ?_
                  first | refine rg_q (q_fieldAddr fld26_2 rfl) ?_ | refine rg_q (q_fieldAddr_ref fld26_2 rfl) ?_
                  refine rg_nil ?_
                  first | refine aops_store sz3 rfl rfl (by first | exact .inl rfl | exact .inr ⟨_, rfl⟩) rfl rfl (by first | decide | simp; done | exact Nat.le_of_ble_eq_true rfl) rfl ?_ | refine aops_storeT (z := .rs _) sz3 rfl rfl rfl rfl (by first | decide | simp) rfl ?_ | refine aops_storeT (z := .d _) sz3 rfl rfl rfl rfl (by first | decide | simp) rfl ?_ | refine aops_storeTA sz3 rfl rfl (by first | exact .inl rfl | exact .inr ⟨_, rfl⟩) rfl rfl (by first | decide | simp) rfl ?_
                  refine aops_nil ?_
                  change Awp _ _ _ _ _
                  refine awp_seq ?_
                  refine awp_region 6 mixed (by kernel_rfl) ?_
                  first | refine rg_q (q_loadA (ds := [_, _, _, _, _, _]) sz26 rfl rfl rfl) ?_ | refine rg_q (q_load_refA (ds := [_, _, _, _, _, _]) sz26 rfl rfl rfl rfl) ?_
                  first | refine rg_q (q_loadA (ds := [_, _]) sz28 rfl rfl rfl) ?_ | refine rg_q (q_load_refA (ds := [_, _]) sz28 rfl rfl rfl rfl) ?_
                  first | refine rg_q (q_call en82 (.cons rfl (.cons rfl .nil)) rfl (focusedR_p (wck a c) p g1 g2 hla.n1 hla.n2 (fun s hs => (lt_ok hlw hpw hs).1))) ?_ | refine rg_q (q_callF en82 (.cons (by first | exact .d _ | exact .rs rfl | exact .ref rfl | exact .nil _ | exact .tref rfl (by repeat (first | exact .nil | refine .cons (.d _ rfl) ?_ | refine .cons (.rs rfl) ?_))) (.cons (by first | exact .d _ | exact .rs rfl | exact .ref rfl | exact .nil _ | exact .tref rfl (by repeat (first | exact .nil | refine .cons (.d _ rfl) ?_ | refine .cons (.rs rfl) ?_))) .nil)) rfl (focusedR_p (wck a c) p g1 g2 hla.n1 hla.n2 (fun s hs => (lt_ok hlw hpw hs).1)) (by first | exact .v _ | exact D.Flat.tupF (by repeat first | exact trivial | refine ⟨.v _, ?_⟩) | exact D.Flat.aggF (by repeat first | exact trivial | refine ⟨.v _, ?_⟩))) ?_
                  refine rg_q (q_move (x := .d (.tup _)) rfl) ?_
                  refine rg_q (q_extract rfl rfl) ?_
                  refine rg_q (q_extract rfl rfl) ?_
                  refine rg_nil ?_
                  refine aops_alloc zr33 rfl rfl rfl ?_
                  first | refine aops_store sz33 rfl rfl (by first | exact .inl rfl | exact .inr ⟨_, rfl⟩) rfl rfl (by first | decide | simp; done | exact Nat.le_of_ble_eq_true rfl) rfl ?_ | refine aops_storeT (z := .rs _) sz33 rfl rfl rfl rfl (by first | decide | simp) rfl ?_ | refine aops_storeT (z := .d _) sz33 rfl rfl rfl rfl (by first | decide | simp) rfl ?_ | refine aops_storeTA sz33 rfl rfl (by first | exact .inl rfl | exact .inr ⟨_, rfl⟩) rfl rfl (by first | decide | simp) rfl ?_
                  refine aops_q rfl (q_assign (x := .d (.v _)) rfl) ?_
                  refine aops_nil ?_
                  change Awp _ _ _ _ _
                  refine awp_seq ?_
                  refine awp_seq ?_
                  refine awp_region 2 mixed (by kernel_rfl) ?_
                  refine rg_q (q_move (x := .d (.v _)) rfl) ?_
                  refine rg_q (q_neq rfl rfl) ?_
                  refine rg_nil ?_
                  refine aops_nil ?_
                  change Awp _ _ _ _ _
                  refine awp_cond rfl (fun hc25 => ?_) (fun hc25 => ?_)
                  ·
                    (try simp only [decide_eq_true_eq, decide_eq_false_iff_not, Bool.and_eq_true, Bool.or_eq_true, Bool.and_eq_false_iff, Bool.or_eq_false_iff, Bool.not_eq_true', Bool.not_eq_false', Bool.not_true, Bool.not_false, bif_and, bif_or, Bool.not_not, ne_eq, Decidable.not_not, not_true_eq_false, not_false_eq_true, Int.not_le, Int.not_lt] at hc25)
                    have hno : ¬ crsO a p m c := fun q => hc25 q.1
                    refine awp_exit ?_
                    refine .inl ⟨rfl, (j + 1, c, 0), ⟨rfl, by omega, rfl, by rw [hf, hat2, if_neg hno]⟩, ?_⟩
                    exact le_round [] _ hw2 rfl ⟨(by first | rfl | (simp; done)), (by first | rfl | (simp; done)), (by first | rfl | (simp; done)), trivial⟩ rfl
                  ·
                    (try simp only [decide_eq_true_eq, decide_eq_false_iff_not, Bool.and_eq_true, Bool.or_eq_true, Bool.and_eq_false_iff, Bool.or_eq_false_iff, Bool.not_eq_true', Bool.not_eq_false', Bool.not_true, Bool.not_false, bif_and, bif_or, Bool.not_not, ne_eq, Decidable.not_not, not_true_eq_false, not_false_eq_true, Int.not_le, Int.not_lt] at hc25)
                    rcases bltR_cases (fcI (wck a c) p) (wck a c).ck (wck a c).el.length with ⟨hT, hb⟩ | hb
                    rotate_left
                    · exfalso; rw [hb] at hc25; revert hc25; decide
                    have ho := wck_opn (p := p) hk0 hla hcv hT
                    have hb0 : (bltR (fcI (wck a c) p) (wck a c).ck (wck a c).el.length).2 = 0 := by rw [hb]
                    have hb1 : (bltR (fcI (wck a c) p) (wck a c).ck (wck a c).el.length).1 = fxL (wck a c) p := by rw [hb]; rfl
                    rw [hb1]
                    refine awp_skip ?_
                    change Awp _ _ _ _ _
                    refine awp_seq ?_
                    refine awp_region 8 mixed (by kernel_rfl) ?_
                    first | refine rg_q (q_loadA (ds := [_, _, _, _, _, _]) sz26 rfl rfl rfl) ?_ | refine rg_q (q_load_refA (ds := [_, _, _, _, _, _]) sz26 rfl rfl rfl rfl) ?_
                    first | refine rg_q (q_loadA (ds := [_, _]) sz33 rfl rfl rfl) ?_ | refine rg_q (q_load_refA (ds := [_, _]) sz33 rfl rfl rfl rfl) ?_
                    refine rg_q (q_build (cs := [_, _, _, _, _, _, _, _]) pl138 zr138 rfl (.cons rfl (by first | exact .inl rfl | exact .inr ⟨_, rfl⟩) (.cons rfl (by first | exact .inl rfl | exact .inr ⟨_, rfl⟩) .nil)) ⟨⟨rfl, by decide⟩, ⟨rfl, by decide⟩, trivial⟩ rfl) ?_
                    first | refine rg_q (q_loadA (ds := [_, _]) sz28 rfl rfl rfl) ?_ | refine rg_q (q_load_refA (ds := [_, _]) sz28 rfl rfl rfl rfl) ?_
                    first | refine rg_q (q_call en89 (.cons rfl (.cons rfl .nil)) rfl (bspread_p (wck a c) (fxL (wck a c) p) p ho hpw)) ?_ | refine rg_q (q_callF en89 (.cons (by first | exact .d _ | exact .rs rfl | exact .ref rfl | exact .nil _ | exact .tref rfl (by repeat (first | exact .nil | refine .cons (.d _ rfl) ?_ | refine .cons (.rs rfl) ?_))) (.cons (by first | exact .d _ | exact .rs rfl | exact .ref rfl | exact .nil _ | exact .tref rfl (by repeat (first | exact .nil | refine .cons (.d _ rfl) ?_ | refine .cons (.rs rfl) ?_))) .nil)) rfl (bspread_p (wck a c) (fxL (wck a c) p) p ho hpw) (by first | exact .v _ | exact D.Flat.tupF (by repeat first | exact trivial | refine ⟨.v _, ?_⟩) | exact D.Flat.aggF (by repeat first | exact trivial | refine ⟨.v _, ?_⟩))) ?_
                    refine rg_q (q_move (x := .d (.tup _)) rfl) ?_
                    refine rg_q (q_extract rfl rfl) ?_
                    refine rg_q (q_extract rfl rfl) ?_
                    refine rg_nil ?_
                    refine aops_alloc zr49 rfl rfl rfl ?_
                    first | refine aops_store sz49 rfl rfl (by first | exact .inl rfl | exact .inr ⟨_, rfl⟩) rfl rfl (by first | decide | simp; done | exact Nat.le_of_ble_eq_true rfl) rfl ?_ | refine aops_storeT (z := .rs _) sz49 rfl rfl rfl rfl (by first | decide | simp) rfl ?_ | refine aops_storeT (z := .d _) sz49 rfl rfl rfl rfl (by first | decide | simp) rfl ?_ | refine aops_storeTA sz49 rfl rfl (by first | exact .inl rfl | exact .inr ⟨_, rfl⟩) rfl rfl (by first | decide | simp) rfl ?_
                    refine aops_q rfl (q_assign (x := .d (.v _)) rfl) ?_
                    refine aops_nil ?_
                    change Awp _ _ _ _ _
                    refine awp_seq ?_
                    refine awp_region 9 mixed (by kernel_rfl) ?_
                    refine rg_q (q_move (x := .d (.v _)) rfl) ?_
                    refine rg_q (q_eql rfl rfl) ?_
                    refine rg_q (q_move (x := .d (.v _)) rfl) ?_
                    first | refine rg_g rfl rfl (fun hG => (q_fieldAddr fld49_1 rfl)) ?_ | refine rg_g rfl rfl (fun hG => (q_fieldAddr_ref fld49_1 rfl)) ?_
                    first | refine rg_g rfl rfl (fun hG => (q_load sz3 rfl rfl)) ?_ | refine rg_g rfl rfl (fun hG => (q_load_ref sz3 rfl rfl rfl)) ?_ | refine rg_g rfl rfl (fun hG => (q_load_tb (x := .d _) sz3 rfl rfl rfl)) ?_ | refine rg_g rfl rfl (fun hG => (q_load_tb (x := .rs _) sz3 rfl rfl rfl)) ?_
                    first | refine rg_g rfl rfl (fun hG => (q_fieldAddr fld106_1 rfl)) ?_ | refine rg_g rfl rfl (fun hG => (q_fieldAddr_ref fld106_1 rfl)) ?_
                    first | refine rg_g rfl rfl (fun hG => (q_load sz3 rfl rfl)) ?_ | refine rg_g rfl rfl (fun hG => (q_load_ref sz3 rfl rfl rfl)) ?_ | refine rg_g rfl rfl (fun hG => (q_load_tb (x := .d _) sz3 rfl rfl rfl)) ?_ | refine rg_g rfl rfl (fun hG => (q_load_tb (x := .rs _) sz3 rfl rfl rfl)) ?_
                    refine rg_g rfl rfl (fun hG => (q_leq rfl rfl)) ?_
                    first | refine rg_pick rfl rfl rfl rfl rfl rfl ?_ | refine rg_q (q_pick rfl rfl rfl) ?_
                    refine rg_nil ?_
                    refine aops_nil ?_
                    change Awp _ _ _ _ _
                    refine awp_cond rfl (fun hc27 => ?_) (fun hc27 => ?_)
                    ·
                      (try simp only [decide_eq_true_eq, decide_eq_false_iff_not, Bool.and_eq_true, Bool.or_eq_true, Bool.and_eq_false_iff, Bool.or_eq_false_iff, Bool.not_eq_true', Bool.not_eq_false', Bool.not_true, Bool.not_false, bif_and, bif_or, Bool.not_not, ne_eq, Decidable.not_not, not_true_eq_false, not_false_eq_true, Int.not_le, Int.not_lt] at hc27)
                      have hyes : crsO a p m c := ⟨hb0, hc27.1, hc27.2⟩
                      refine awp_seq ?_
                      refine awp_region 1 mixed (by kernel_rfl) ?_
                      refine rg_q (q_move (x := .d (.v _)) rfl) ?_
                      refine rg_nil ?_
                      first | refine aops_store sz3 rfl rfl (by first | exact .inl rfl | exact .inr ⟨_, rfl⟩) rfl rfl (by first | decide | simp; done | exact Nat.le_of_ble_eq_true rfl) rfl ?_ | refine aops_storeT (z := .rs _) sz3 rfl rfl rfl rfl (by first | decide | simp) rfl ?_ | refine aops_storeT (z := .d _) sz3 rfl rfl rfl rfl (by first | decide | simp) rfl ?_ | refine aops_storeTA sz3 rfl rfl (by first | exact .inl rfl | exact .inr ⟨_, rfl⟩) rfl rfl (by first | decide | simp) rfl ?_
                      first | refine aops_store sz34 rfl rfl (by first | exact .inl rfl | exact .inr ⟨_, rfl⟩) rfl rfl (by first | decide | simp; done | exact Nat.le_of_ble_eq_true rfl) rfl ?_ | refine aops_storeT (z := .rs _) sz34 rfl rfl rfl rfl (by first | decide | simp) rfl ?_ | refine aops_storeT (z := .d _) sz34 rfl rfl rfl rfl (by first | decide | simp) rfl ?_ | refine aops_storeTA sz34 rfl rfl (by first | exact .inl rfl | exact .inr ⟨_, rfl⟩) rfl rfl (by first | decide | simp) rfl ?_
                      refine aops_nil ?_
                      change Awp _ _ _ _ _
                      refine awp_ret ?_
                      refine .inr ⟨rfl, (j + 1, c, c), ⟨rfl, by rw [hf, hat2, if_pos hyes]⟩, ?_⟩
                      exact le_round [] _ hw2 rfl ⟨(by first | rfl | (simp; done)), (by first | rfl | (simp; done)), (by first | rfl | (simp; done)), trivial⟩ rfl
                    ·
                      (try simp only [decide_eq_true_eq, decide_eq_false_iff_not, Bool.and_eq_true, Bool.or_eq_true, Bool.and_eq_false_iff, Bool.or_eq_false_iff, Bool.not_eq_true', Bool.not_eq_false', Bool.not_true, Bool.not_false, bif_and, bif_or, Bool.not_not, ne_eq, Decidable.not_not, not_true_eq_false, not_false_eq_true, Int.not_le, Int.not_lt] at hc27)
                      have hno : ¬ crsO a p m c := fun q => by
                        have q1 := q.2.1
                        have q2 := q.2.2
                        omega
                      refine awp_skip ?_
                      refine .inl ⟨rfl, (j + 1, c, 0), ⟨rfl, by omega, rfl, by rw [hf, hat2, if_neg hno]⟩, ?_⟩
                      exact le_round [] _ hw2 rfl ⟨(by first | rfl | (simp; done)), (by first | rfl | (simp; done)), (by first | rfl | (simp; done)), trivial⟩ rfl
                ·
                  intro q hI
                  obtain ⟨h1, hk, hv0, hf⟩ := hI
                  rw [bwd_len, Nat.sub_self] at hf
                  have hfin : crsK a p m l l.length = (0, 12) := hf
                  change Awp _ _ _ _ _
                  refine awp_seq ?_
                  refine awp_region 0 mixed (by kernel_rfl) ?_
                  refine rg_nil ?_
                  first | refine aops_store sz3 rfl rfl (by first | exact .inl rfl | exact .inr ⟨_, rfl⟩) rfl rfl (by first | decide | simp; done | exact Nat.le_of_ble_eq_true rfl) rfl ?_ | refine aops_storeT (z := .rs _) sz3 rfl rfl rfl rfl (by first | decide | simp) rfl ?_ | refine aops_storeT (z := .d _) sz3 rfl rfl rfl rfl (by first | decide | simp) rfl ?_ | refine aops_storeTA sz3 rfl rfl (by first | exact .inl rfl | exact .inr ⟨_, rfl⟩) rfl rfl (by first | decide | simp) rfl ?_
                  first | refine aops_store sz34 rfl rfl (by first | exact .inl rfl | exact .inr ⟨_, rfl⟩) rfl rfl (by first | decide | simp; done | exact Nat.le_of_ble_eq_true rfl) rfl ?_ | refine aops_storeT (z := .rs _) sz34 rfl rfl rfl rfl (by first | decide | simp) rfl ?_ | refine aops_storeT (z := .d _) sz34 rfl rfl rfl rfl (by first | decide | simp) rfl ?_ | refine aops_storeTA sz34 rfl rfl (by first | exact .inl rfl | exact .inr ⟨_, rfl⟩) rfl rfl (by first | decide | simp) rfl ?_
                  refine aops_nil ?_
                  change Awp _ _ _ _ _
                  refine awp_ret ?_
                  refine ⟨_, (.cons (.cell1 rfl rfl sz3) (.cons (.cell1 rfl rfl sz34) .nil)), ?_⟩
                  rw [hz, hu, hfin]; rfl
                ·
                  rintro e q (⟨rfl, hX⟩)
                  ·
                    refine ⟨_, (.cons (.cell1 rfl rfl sz3) (.cons (.cell1 rfl rfl sz34) .nil)), ?_⟩
                    rw [hz, hu, hX]; rfl
  ·
    exact absurd (of_decide_eq_false hc2) (fun h => h hk0)

theorem coarsest_p (a : Lar) (p : Int × Int) (l : List Int) (m : Int) : PC Tryz.prog 60 [.agg (larC a), .agg (shC p), .agg [.sl 1 (l.map iC), .v (.int .i64 (m))]] (.tup [.v (.int .i64 ((crsR a p l m).1)), .v (.int .i64 ((crsR a p l m).2))]) := by
  by_cases h : focE a p = 0
  · exact coarsestOk_p a p l m h
  · exact coarsestBad_p a p l m h
set_option maxRecDepth 100000 in
theorem rcoarsest_p (a : Lar) (p : Int × Int) (l : List Int) (m : Int) (hfo : focE a p = 0) : PC Tryz.prog 62 [.agg (larC a), .agg (shC p), .agg [.sl 1 (l.map iC), .v (.int .i64 (m))]] (.tup [.v (.int .i64 ((crsN a p l m).1)), .v (.int .i64 ((crsN a p l m).2))]) := by
  have hk0 : (ckLar a).2 = 0 := Decidable.not_not.1 (fun h => by unfold focE at hfo; rw [if_pos h] at hfo; exact h hfo)
  have hp : plcE a p = 0 := by unfold focE at hfo; rw [if_neg (fun q => q hk0)] at hfo; exact hfo
  have hla := (lar_ok hk0).1
  obtain ⟨_, _, _, _, _, _, t1, t2⟩ := hla.md
  have hu : crsN a p l m = if (l.length : Int) = 0 then (0, 10) else if 20 < (l.length : Int) then (0, 8) else if clkF 0 l ≠ 0 then (0, clkF 0 l) else if inR 0 m 1000000000000 = false then (0, 2) else crsK a p m l l.length := rfl
  refine pc_of_awpN Tryz.func62 rfl Tryz.ntmps62 (rs := [.tmp 6, .tmp 7]) Tryz.results62 (by simp) fun w0 hmine hrnd hpn => ?_
  refine awp_seq ?_
  refine awp_region 0 mixed (by kernel_rfl) ?_
  refine rg_nil ?_
  refine aops_box rfl (by first | exact .inl rfl | exact .inr ⟨_, rfl⟩) rfl rfl rfl ?_
  refine aops_q rfl (q_box rfl (by first | exact .inl rfl | exact .inr ⟨_, rfl⟩)) ?_
  refine aops_q rfl (q_box rfl (by first | exact .inl rfl | exact .inr ⟨_, rfl⟩)) ?_
  refine aops_q rfl (q_assign (x := .d (.v _)) rfl) ?_
  refine aops_q rfl (q_assign (x := .d (.v _)) rfl) ?_
  refine aops_nil ?_
  change Awp _ _ _ _ _
  refine awp_seq ?_
  refine awp_seq ?_
  refine awp_region 4 mixed (by kernel_rfl) ?_
  first | refine rg_q (q_fieldAddr fld106_0 rfl) ?_ | refine rg_q (q_fieldAddr_ref fld106_0 rfl) ?_
  first | refine rg_q (q_load sz31 rfl rfl) ?_ | refine rg_q (q_load_ref sz31 rfl rfl rfl) ?_ | refine rg_q (q_load_tb (x := .d _) sz31 rfl rfl rfl) ?_ | refine rg_q (q_load_tb (x := .rs _) sz31 rfl rfl rfl) ?_
  first | refine rg_q (q_len isl31 rfl (by first | exact len_map _ _ | rfl)) ?_ | refine rg_q (q_len_rs isl31 rfl rfl) ?_ | refine rg_q (q_len_nil isl31 rfl) ?_
  refine rg_q (q_eql rfl rfl) ?_
  refine rg_nil ?_
  refine aops_nil ?_
  change Awp _ _ _ _ _
  first | refine awp_len (t := 16) rfl (fun hl16 => ?_) | skip
  (try simp only [List.length_map] at hl16)
  refine awp_cond rfl (fun hc1 => ?_) (fun hc1 => ?_)
  ·
    (try simp only [decide_eq_true_eq, decide_eq_false_iff_not, Bool.and_eq_true, Bool.or_eq_true, Bool.and_eq_false_iff, Bool.or_eq_false_iff, Bool.not_eq_true', Bool.not_eq_false', Bool.not_true, Bool.not_false, bif_and, bif_or, Bool.not_not, ne_eq, Decidable.not_not, not_true_eq_false, not_false_eq_true, Int.not_le, Int.not_lt] at hc1)
    try simp only [List.length_map] at hc1
    rw [if_pos hc1] at hu
    refine awp_seq ?_
    refine awp_region 2 mixed (by kernel_rfl) ?_
    refine rg_q (q_assign (x := .d (.v _)) rfl) ?_
    refine rg_q (q_assign (x := .d (.v _)) rfl) ?_
    refine rg_nil ?_
    refine aops_nil ?_
    change Awp _ _ _ _ _
    refine awp_ret ?_
    refine ⟨_, (.cons (.tmp (by first | exact .d _ | exact .rs rfl | exact .ref rfl | exact .tref rfl (.cons (.d _ rfl) (.cons (.rs rfl) .nil)))) (.cons (.tmp (by first | exact .d _ | exact .rs rfl | exact .ref rfl | exact .tref rfl (.cons (.d _ rfl) (.cons (.rs rfl) .nil)))) .nil)), ?_⟩
    rw [hu]; rfl
  ·
    (try simp only [decide_eq_true_eq, decide_eq_false_iff_not, Bool.and_eq_true, Bool.or_eq_true, Bool.and_eq_false_iff, Bool.or_eq_false_iff, Bool.not_eq_true', Bool.not_eq_false', Bool.not_true, Bool.not_false, bif_and, bif_or, Bool.not_not, ne_eq, Decidable.not_not, not_true_eq_false, not_false_eq_true, Int.not_le, Int.not_lt] at hc1)
    try simp only [List.length_map] at hc1
    rw [if_neg hc1] at hu
    refine awp_skip ?_
    change Awp _ _ _ _ _
    refine awp_seq ?_
    refine awp_seq ?_
    refine awp_region 4 mixed (by kernel_rfl) ?_
    first | refine rg_q (q_fieldAddr fld106_0 rfl) ?_ | refine rg_q (q_fieldAddr_ref fld106_0 rfl) ?_
    first | refine rg_q (q_load sz31 rfl rfl) ?_ | refine rg_q (q_load_ref sz31 rfl rfl rfl) ?_ | refine rg_q (q_load_tb (x := .d _) sz31 rfl rfl rfl) ?_ | refine rg_q (q_load_tb (x := .rs _) sz31 rfl rfl rfl) ?_
    first | refine rg_q (q_len isl31 rfl (by first | exact len_map _ _ | rfl)) ?_ | refine rg_q (q_len_rs isl31 rfl rfl) ?_ | refine rg_q (q_len_nil isl31 rfl) ?_
    refine rg_q (q_gtr rfl rfl) ?_
    refine rg_nil ?_
    refine aops_nil ?_
    change Awp _ _ _ _ _
    first | refine awp_len (t := 20) rfl (fun hl20 => ?_) | skip
    (try simp only [List.length_map] at hl20)
    refine awp_cond rfl (fun hc3 => ?_) (fun hc3 => ?_)
    ·
      (try simp only [decide_eq_true_eq, decide_eq_false_iff_not, Bool.and_eq_true, Bool.or_eq_true, Bool.and_eq_false_iff, Bool.or_eq_false_iff, Bool.not_eq_true', Bool.not_eq_false', Bool.not_true, Bool.not_false, bif_and, bif_or, Bool.not_not, ne_eq, Decidable.not_not, not_true_eq_false, not_false_eq_true, Int.not_le, Int.not_lt] at hc3)
      try simp only [List.length_map] at hc3
      rw [if_pos hc3] at hu
      refine awp_seq ?_
      refine awp_region 2 mixed (by kernel_rfl) ?_
      refine rg_q (q_assign (x := .d (.v _)) rfl) ?_
      refine rg_q (q_assign (x := .d (.v _)) rfl) ?_
      refine rg_nil ?_
      refine aops_nil ?_
      change Awp _ _ _ _ _
      refine awp_ret ?_
      refine ⟨_, (.cons (.tmp (by first | exact .d _ | exact .rs rfl | exact .ref rfl | exact .tref rfl (.cons (.d _ rfl) (.cons (.rs rfl) .nil)))) (.cons (.tmp (by first | exact .d _ | exact .rs rfl | exact .ref rfl | exact .tref rfl (.cons (.d _ rfl) (.cons (.rs rfl) .nil)))) .nil)), ?_⟩
      rw [hu]; rfl
    ·
      (try simp only [decide_eq_true_eq, decide_eq_false_iff_not, Bool.and_eq_true, Bool.or_eq_true, Bool.and_eq_false_iff, Bool.or_eq_false_iff, Bool.not_eq_true', Bool.not_eq_false', Bool.not_true, Bool.not_false, bif_and, bif_or, Bool.not_not, ne_eq, Decidable.not_not, not_true_eq_false, not_false_eq_true, Int.not_le, Int.not_lt] at hc3)
      try simp only [List.length_map] at hc3
      rw [if_neg (by omega)] at hu
      refine awp_skip ?_
      change Awp _ _ _ _ _
      refine awp_seq ?_
      refine awp_seq ?_
      refine awp_region 1 mixed (by kernel_rfl) ?_
      refine rg_q (q_assign (x := .d (.v _)) rfl) ?_
      refine rg_nil ?_
      refine aops_nil ?_
      change Awp _ _ _ _ _
      refine awp_block ?_
      refine awp_loopH [6, 7, 8, 9, 23, 24, 25, 26, 27, 28, 29, 30, 31, 32, 33, 34, 35, 36, 37, 38, 39, 40, 41, 42, 43, 44, 45, 46, 47, 48, 49, 50, 51, 52, 53, 54] [] (α := Nat) (fun k => [(8, T.i (k : Int))]) (fun k => []) (fun k => k ≤ l.length ∧ clkF 0 l = clkF (prvC l k) (l.drop k)) (fun k => l.length - k) 0 ⟨Nat.zero_le _, rfl⟩ ?_ ?_
      · exact le_head (ms := []) (by repeat (first | exact Out.refl _ | exact Out.head rfl rfl | (refine Out.put ?_ rfl) | (refine Out.site ?_ rfl) | (refine Out.putn ?_) | (refine Out.headIn ?_ rfl rfl rfl) | (refine Out.called ?_ rfl rfl))) ⟨(by first | rfl | (simp; done)), trivial⟩ trivial rfl rfl rfl rfl
      ·
        intro k ⟨hk, hf⟩
        refine awp_seq ?_
        refine awp_seq ?_
        refine awp_region 5 mixed (by kernel_rfl) ?_
        refine rg_q (q_move (x := .d (.v _)) rfl) ?_
        first | refine rg_q (q_fieldAddr fld106_0 rfl) ?_ | refine rg_q (q_fieldAddr_ref fld106_0 rfl) ?_
        first | refine rg_q (q_load sz31 rfl rfl) ?_ | refine rg_q (q_load_ref sz31 rfl rfl rfl) ?_ | refine rg_q (q_load_tb (x := .d _) sz31 rfl rfl rfl) ?_ | refine rg_q (q_load_tb (x := .rs _) sz31 rfl rfl rfl) ?_
        first | refine rg_q (q_len isl31 rfl (by first | exact len_map _ _ | rfl)) ?_ | refine rg_q (q_len_rs isl31 rfl rfl) ?_ | refine rg_q (q_len_nil isl31 rfl) ?_
        refine rg_q (q_lss rfl rfl) ?_
        refine rg_nil ?_
        refine aops_nil ?_
        change Awp _ _ _ _ _
        first | refine awp_len (t := 25) rfl (fun hl25 => ?_) | skip
        (try simp only [List.length_map] at hl25)
        refine awp_cond rfl (fun hc6 => ?_) (fun hc6 => ?_)
        ·
          (try simp only [decide_eq_true_eq, decide_eq_false_iff_not, Bool.and_eq_true, Bool.or_eq_true, Bool.and_eq_false_iff, Bool.or_eq_false_iff, Bool.not_eq_true', Bool.not_eq_false', Bool.not_true, Bool.not_false, bif_and, bif_or, Bool.not_not, ne_eq, Decidable.not_not, not_true_eq_false, not_false_eq_true, Int.not_le, Int.not_lt] at hc6)
          have hlt : k < l.length := by omega
          obtain ⟨y, hx⟩ : ∃ y, l[k]? = some y := ⟨_, List.getElem?_eq_getElem hlt⟩
          obtain ⟨z, hp1⟩ : ∃ z, 0 < k → l[k - 1]? = some z := ⟨l.getD (k - 1) 0, fun h => by rw [List.getD_eq_getElem?_getD, List.getElem?_eq_getElem (by omega)]; rfl⟩
          have hd := clkF_at hx
          refine awp_skip ?_
          change Awp _ _ _ _ _
          refine awp_seq ?_
          refine awp_block ?_
          refine awp_seq ?_
          refine awp_seq ?_
          refine awp_region 7 mixed (by kernel_rfl) ?_
          first | refine rg_q (q_fieldAddr fld106_0 rfl) ?_ | refine rg_q (q_fieldAddr_ref fld106_0 rfl) ?_
          first | refine rg_q (q_load sz31 rfl rfl) ?_ | refine rg_q (q_load_ref sz31 rfl rfl rfl) ?_ | refine rg_q (q_load_tb (x := .d _) sz31 rfl rfl rfl) ?_ | refine rg_q (q_load_tb (x := .rs _) sz31 rfl rfl rfl) ?_
          refine rg_q (q_move (x := .d (.v _)) rfl) ?_
          first | refine rg_q (q_indexAddr sl31 rfl rfl (by omega) (map_at (k := k) (by omega) hx)) ?_ | refine rg_q (q_indexAddr_rs sl31 rfl rfl rfl (by omega) (by omega)) ?_
          first | refine rg_q (q_load sz3 rfl rfl) ?_ | refine rg_q (q_load_ref sz3 rfl rfl rfl) ?_ | refine rg_q (q_load_tb (x := .d _) sz3 rfl rfl rfl) ?_ | refine rg_q (q_load_tb (x := .rs _) sz3 rfl rfl rfl) ?_
          first | refine rg_q (q_call en71 (.cons rfl .nil) rfl (rclockErr_p _)) ?_ | refine rg_q (q_callF en71 (.cons (by first | exact .d _ | exact .rs rfl | exact .ref rfl | exact .nil _ | exact .tref rfl (by repeat (first | exact .nil | refine .cons (.d _ rfl) ?_ | refine .cons (.rs rfl) ?_))) .nil) rfl (rclockErr_p _) (by first | exact .v _ | exact D.Flat.tupF (by repeat first | exact trivial | refine ⟨.v _, ?_⟩) | exact D.Flat.aggF (by repeat first | exact trivial | refine ⟨.v _, ?_⟩))) ?_
          refine rg_q (q_assign (x := .d (.v _)) rfl) ?_
          refine rg_nil ?_
          refine aops_nil ?_
          change Awp _ _ _ _ _
          refine awp_seq ?_
          refine awp_region 2 mixed (by kernel_rfl) ?_
          refine rg_q (q_move (x := .d (.v _)) rfl) ?_
          refine rg_q (q_neq rfl rfl) ?_
          refine rg_nil ?_
          refine aops_nil ?_
          change Awp _ _ _ _ _
          refine awp_cond rfl (fun hc9 => ?_) (fun hc9 => ?_)
          ·
            (try simp only [decide_eq_true_eq, decide_eq_false_iff_not, Bool.and_eq_true, Bool.or_eq_true, Bool.and_eq_false_iff, Bool.or_eq_false_iff, Bool.not_eq_true', Bool.not_eq_false', Bool.not_true, Bool.not_false, bif_and, bif_or, Bool.not_not, ne_eq, Decidable.not_not, not_true_eq_false, not_false_eq_true, Int.not_le, Int.not_lt] at hc9)
            have he : clkF 0 l = clkE y := by rw [hf, hd, if_pos hc9]
            rw [he, if_pos hc9] at hu
            refine awp_seq ?_
            refine awp_region 3 mixed (by kernel_rfl) ?_
            refine rg_q (q_move (x := .d (.v _)) rfl) ?_
            refine rg_q (q_assign (x := .d (.v _)) rfl) ?_
            refine rg_q (q_assign (x := .d (.v _)) rfl) ?_
            refine rg_nil ?_
            refine aops_nil ?_
            change Awp _ _ _ _ _
            refine awp_ret ?_
            refine ⟨_, (.cons (.tmp (by first | exact .d _ | exact .rs rfl | exact .ref rfl | exact .tref rfl (.cons (.d _ rfl) (.cons (.rs rfl) .nil)))) (.cons (.tmp (by first | exact .d _ | exact .rs rfl | exact .ref rfl | exact .tref rfl (.cons (.d _ rfl) (.cons (.rs rfl) .nil)))) .nil)), ?_⟩
            rw [hu]; rfl
          ·
            (try simp only [decide_eq_true_eq, decide_eq_false_iff_not, Bool.and_eq_true, Bool.or_eq_true, Bool.and_eq_false_iff, Bool.or_eq_false_iff, Bool.not_eq_true', Bool.not_eq_false', Bool.not_true, Bool.not_false, bif_and, bif_or, Bool.not_not, ne_eq, Decidable.not_not, not_true_eq_false, not_false_eq_true, Int.not_le, Int.not_lt] at hc9)
            have he1 : clkE y = 0 := by simpa using hc9
            obtain ⟨g1, g2⟩ := clkE_ok he1
            refine awp_skip ?_
            change Awp _ _ _ _ _
            refine awp_seq ?_
            refine awp_region 16 mixed (by kernel_rfl) ?_
            refine rg_q (q_move (x := .d (.v _)) rfl) ?_
            refine rg_q (q_gtr rfl rfl) ?_
            refine rg_q (q_move (x := .d (.v _)) rfl) ?_
            first | refine rg_g rfl rfl (fun hG => (q_fieldAddr fld106_0 rfl)) ?_ | refine rg_g rfl rfl (fun hG => (q_fieldAddr_ref fld106_0 rfl)) ?_
            first | refine rg_g rfl rfl (fun hG => (q_load sz31 rfl rfl)) ?_ | refine rg_g rfl rfl (fun hG => (q_load_ref sz31 rfl rfl rfl)) ?_ | refine rg_g rfl rfl (fun hG => (q_load_tb (x := .d _) sz31 rfl rfl rfl)) ?_ | refine rg_g rfl rfl (fun hG => (q_load_tb (x := .rs _) sz31 rfl rfl rfl)) ?_
            refine rg_g rfl rfl (fun hG => (q_move (x := .d (.v _)) rfl)) ?_
            first | refine rg_g rfl rfl (fun hG => (q_indexAddr sl31 rfl rfl (by (have hg0 := T.bool_inj (a := _) hG.1; (try simp only [decide_eq_true_eq, decide_eq_false_iff_not, Bool.and_eq_true, Bool.or_eq_true, Bool.and_eq_false_iff, Bool.or_eq_false_iff, Bool.not_eq_true', Bool.not_eq_false', Bool.not_true, Bool.not_false, bif_and, bif_or, Bool.not_not, ne_eq, Decidable.not_not, not_true_eq_false, not_false_eq_true, Int.not_le, Int.not_lt] at hg0); omega)) (map_at (k := k) (by (have hg0 := T.bool_inj (a := _) hG.1; (try simp only [decide_eq_true_eq, decide_eq_false_iff_not, Bool.and_eq_true, Bool.or_eq_true, Bool.and_eq_false_iff, Bool.or_eq_false_iff, Bool.not_eq_true', Bool.not_eq_false', Bool.not_true, Bool.not_false, bif_and, bif_or, Bool.not_not, ne_eq, Decidable.not_not, not_true_eq_false, not_false_eq_true, Int.not_le, Int.not_lt] at hg0); omega)) hx))) ?_ | refine rg_g rfl rfl (fun hG => (q_indexAddr_rs sl31 rfl rfl rfl (by (have hg0 := T.bool_inj (a := _) hG.1; (try simp only [decide_eq_true_eq, decide_eq_false_iff_not, Bool.and_eq_true, Bool.or_eq_true, Bool.and_eq_false_iff, Bool.or_eq_false_iff, Bool.not_eq_true', Bool.not_eq_false', Bool.not_true, Bool.not_false, bif_and, bif_or, Bool.not_not, ne_eq, Decidable.not_not, not_true_eq_false, not_false_eq_true, Int.not_le, Int.not_lt] at hg0); omega)) (by (have hg0 := T.bool_inj (a := _) hG.1; (try simp only [decide_eq_true_eq, decide_eq_false_iff_not, Bool.and_eq_true, Bool.or_eq_true, Bool.and_eq_false_iff, Bool.or_eq_false_iff, Bool.not_eq_true', Bool.not_eq_false', Bool.not_true, Bool.not_false, bif_and, bif_or, Bool.not_not, ne_eq, Decidable.not_not, not_true_eq_false, not_false_eq_true, Int.not_le, Int.not_lt] at hg0); omega)))) ?_
            first | refine rg_g rfl rfl (fun hG => (q_load sz3 rfl rfl)) ?_ | refine rg_g rfl rfl (fun hG => (q_load_ref sz3 rfl rfl rfl)) ?_ | refine rg_g rfl rfl (fun hG => (q_load_tb (x := .d _) sz3 rfl rfl rfl)) ?_ | refine rg_g rfl rfl (fun hG => (q_load_tb (x := .rs _) sz3 rfl rfl rfl)) ?_
            first | refine rg_g rfl rfl (fun hG => (q_fieldAddr fld106_0 rfl)) ?_ | refine rg_g rfl rfl (fun hG => (q_fieldAddr_ref fld106_0 rfl)) ?_
            first | refine rg_g rfl rfl (fun hG => (q_load sz31 rfl rfl)) ?_ | refine rg_g rfl rfl (fun hG => (q_load_ref sz31 rfl rfl rfl)) ?_ | refine rg_g rfl rfl (fun hG => (q_load_tb (x := .d _) sz31 rfl rfl rfl)) ?_ | refine rg_g rfl rfl (fun hG => (q_load_tb (x := .rs _) sz31 rfl rfl rfl)) ?_
            refine rg_g rfl rfl (fun hG => (q_move (x := .d (.v _)) rfl)) ?_
            refine rg_g rfl rfl (fun hG => (q_sub rfl rfl (In64.mk (by (have hg0 := T.bool_inj (a := _) hG.1; (try simp only [decide_eq_true_eq, decide_eq_false_iff_not, Bool.and_eq_true, Bool.or_eq_true, Bool.and_eq_false_iff, Bool.or_eq_false_iff, Bool.not_eq_true', Bool.not_eq_false', Bool.not_true, Bool.not_false, bif_and, bif_or, Bool.not_not, ne_eq, Decidable.not_not, not_true_eq_false, not_false_eq_true, Int.not_le, Int.not_lt] at hg0); omega)) (by (have hg0 := T.bool_inj (a := _) hG.1; (try simp only [decide_eq_true_eq, decide_eq_false_iff_not, Bool.and_eq_true, Bool.or_eq_true, Bool.and_eq_false_iff, Bool.or_eq_false_iff, Bool.not_eq_true', Bool.not_eq_false', Bool.not_true, Bool.not_false, bif_and, bif_or, Bool.not_not, ne_eq, Decidable.not_not, not_true_eq_false, not_false_eq_true, Int.not_le, Int.not_lt] at hg0); omega))))) ?_
            first | refine rg_g rfl rfl (fun hG => (q_indexAddr sl31 rfl rfl (by (have hg0 := T.bool_inj (a := _) hG.1; (try simp only [decide_eq_true_eq, decide_eq_false_iff_not, Bool.and_eq_true, Bool.or_eq_true, Bool.and_eq_false_iff, Bool.or_eq_false_iff, Bool.not_eq_true', Bool.not_eq_false', Bool.not_true, Bool.not_false, bif_and, bif_or, Bool.not_not, ne_eq, Decidable.not_not, not_true_eq_false, not_false_eq_true, Int.not_le, Int.not_lt] at hg0); omega)) (map_at (k := k - 1) (by (have hg0 := T.bool_inj (a := _) hG.1; (try simp only [decide_eq_true_eq, decide_eq_false_iff_not, Bool.and_eq_true, Bool.or_eq_true, Bool.and_eq_false_iff, Bool.or_eq_false_iff, Bool.not_eq_true', Bool.not_eq_false', Bool.not_true, Bool.not_false, bif_and, bif_or, Bool.not_not, ne_eq, Decidable.not_not, not_true_eq_false, not_false_eq_true, Int.not_le, Int.not_lt] at hg0); omega)) (hp1 (by (have hg0 := T.bool_inj (a := _) hG.1; (try simp only [decide_eq_true_eq, decide_eq_false_iff_not, Bool.and_eq_true, Bool.or_eq_true, Bool.and_eq_false_iff, Bool.or_eq_false_iff, Bool.not_eq_true', Bool.not_eq_false', Bool.not_true, Bool.not_false, bif_and, bif_or, Bool.not_not, ne_eq, Decidable.not_not, not_true_eq_false, not_false_eq_true, Int.not_le, Int.not_lt] at hg0); omega)))))) ?_ | refine rg_g rfl rfl (fun hG => (q_indexAddr_rs sl31 rfl rfl rfl (by (have hg0 := T.bool_inj (a := _) hG.1; (try simp only [decide_eq_true_eq, decide_eq_false_iff_not, Bool.and_eq_true, Bool.or_eq_true, Bool.and_eq_false_iff, Bool.or_eq_false_iff, Bool.not_eq_true', Bool.not_eq_false', Bool.not_true, Bool.not_false, bif_and, bif_or, Bool.not_not, ne_eq, Decidable.not_not, not_true_eq_false, not_false_eq_true, Int.not_le, Int.not_lt] at hg0); omega)) (by (have hg0 := T.bool_inj (a := _) hG.1; (try simp only [decide_eq_true_eq, decide_eq_false_iff_not, Bool.and_eq_true, Bool.or_eq_true, Bool.and_eq_false_iff, Bool.or_eq_false_iff, Bool.not_eq_true', Bool.not_eq_false', Bool.not_true, Bool.not_false, bif_and, bif_or, Bool.not_not, ne_eq, Decidable.not_not, not_true_eq_false, not_false_eq_true, Int.not_le, Int.not_lt] at hg0); omega)))) ?_
            first | refine rg_g rfl rfl (fun hG => (q_load sz3 rfl rfl)) ?_ | refine rg_g rfl rfl (fun hG => (q_load_ref sz3 rfl rfl rfl)) ?_ | refine rg_g rfl rfl (fun hG => (q_load_tb (x := .d _) sz3 rfl rfl rfl)) ?_ | refine rg_g rfl rfl (fun hG => (q_load_tb (x := .rs _) sz3 rfl rfl rfl)) ?_
            refine rg_g rfl rfl (fun hG => (q_leq rfl rfl)) ?_
            first | refine rg_pick rfl rfl rfl rfl rfl rfl ?_ | refine rg_q (q_pick rfl rfl rfl) ?_
            refine rg_nil ?_
            refine aops_nil ?_
            change Awp _ _ _ _ _
            refine awp_cond rfl (fun hc11 => ?_) (fun hc11 => ?_)
            ·
              (try simp only [decide_eq_true_eq, decide_eq_false_iff_not, Bool.and_eq_true, Bool.or_eq_true, Bool.and_eq_false_iff, Bool.or_eq_false_iff, Bool.not_eq_true', Bool.not_eq_false', Bool.not_true, Bool.not_false, bif_and, bif_or, Bool.not_not, ne_eq, Decidable.not_not, not_true_eq_false, not_false_eq_true, Int.not_le, Int.not_lt] at hc11)
              have he : clkF 0 l = 9 := by rw [hf, hd, if_neg (fun q => q he1), if_pos (by unfold prvC; rw [if_neg (by omega), List.getD_eq_getElem?_getD, hp1 (by omega)]; exact hc11.2)]
              rw [he, if_pos (by simp)] at hu
              refine awp_seq ?_
              refine awp_region 2 mixed (by kernel_rfl) ?_
              refine rg_q (q_assign (x := .d (.v _)) rfl) ?_
              refine rg_q (q_assign (x := .d (.v _)) rfl) ?_
              refine rg_nil ?_
              refine aops_nil ?_
              change Awp _ _ _ _ _
              refine awp_ret ?_
              refine ⟨_, (.cons (.tmp (by first | exact .d _ | exact .rs rfl | exact .ref rfl | exact .tref rfl (.cons (.d _ rfl) (.cons (.rs rfl) .nil)))) (.cons (.tmp (by first | exact .d _ | exact .rs rfl | exact .ref rfl | exact .tref rfl (.cons (.d _ rfl) (.cons (.rs rfl) .nil)))) .nil)), ?_⟩
              rw [hu]; rfl
            ·
              (try simp only [decide_eq_true_eq, decide_eq_false_iff_not, Bool.and_eq_true, Bool.or_eq_true, Bool.and_eq_false_iff, Bool.or_eq_false_iff, Bool.not_eq_true', Bool.not_eq_false', Bool.not_true, Bool.not_false, bif_and, bif_or, Bool.not_not, ne_eq, Decidable.not_not, not_true_eq_false, not_false_eq_true, Int.not_le, Int.not_lt] at hc11)
              have hnl : ¬ y ≤ prvC l k := by
                unfold prvC
                by_cases e : k = 0
                · rw [if_pos e]; omega
                · rw [if_neg e, List.getD_eq_getElem?_getD, hp1 (by omega)]
                  intro h
                  have h : y ≤ z := h
                  first | (simp_all; done) | (simp_all; omega) | omega
              have hdn : clkF 0 l = clkF (prvC l (k + 1)) (l.drop (k + 1)) := by rw [hf, hd, if_neg (fun q => q he1), if_neg hnl]
              refine awp_skip ?_
              change Awp _ _ _ _ _
              refine awp_region 3 mixed (by kernel_rfl) ?_
              refine rg_q (q_move (x := .d (.v _)) rfl) ?_
              refine rg_q (q_add rfl rfl (In64.mk (by omega) (by omega))) ?_
              refine rg_q (q_assign (x := .d (.v _)) rfl) ?_
              refine rg_nil ?_
              refine aops_nil ?_
              refine ⟨k + 1, ⟨by omega, hdn⟩, by omega, ?_⟩
              exact le_head (ms := []) (by repeat (first | exact Out.refl _ | exact Out.head rfl rfl | (refine Out.put ?_ rfl) | (refine Out.site ?_ rfl) | (refine Out.putn ?_) | (refine Out.headIn ?_ rfl rfl rfl) | (refine Out.called ?_ rfl rfl))) ⟨(by first | rfl | (simp; done)), trivial⟩ trivial rfl rfl rfl rfl
        ·
          (try simp only [decide_eq_true_eq, decide_eq_false_iff_not, Bool.and_eq_true, Bool.or_eq_true, Bool.and_eq_false_iff, Bool.or_eq_false_iff, Bool.not_eq_true', Bool.not_eq_false', Bool.not_true, Bool.not_false, bif_and, bif_or, Bool.not_not, ne_eq, Decidable.not_not, not_true_eq_false, not_false_eq_true, Int.not_le, Int.not_lt] at hc6)
          have hkl : k = l.length := by omega
          have he0 : clkF 0 l = 0 := by rw [hf, hkl, List.drop_length]; rfl
          rw [if_neg (fun q => q he0)] at hu
          refine awp_exit ?_
          change Awp _ _ _ _ _
          refine awp_seq ?_
          refine awp_seq ?_
          refine awp_region 4 mixed (by kernel_rfl) ?_
          first | refine rg_q (q_fieldAddr fld106_1 rfl) ?_ | refine rg_q (q_fieldAddr_ref fld106_1 rfl) ?_
          first | refine rg_q (q_load sz3 rfl rfl) ?_ | refine rg_q (q_load_ref sz3 rfl rfl rfl) ?_ | refine rg_q (q_load_tb (x := .d _) sz3 rfl rfl rfl) ?_ | refine rg_q (q_load_tb (x := .rs _) sz3 rfl rfl rfl) ?_
          first | refine rg_q (q_call en34 (.cons rfl (.cons rfl (.cons rfl .nil))) rfl (Within_p _ _ _)) ?_ | refine rg_q (q_callF en34 (.cons (by first | exact .d _ | exact .rs rfl | exact .ref rfl | exact .nil _ | exact .tref rfl (by repeat (first | exact .nil | refine .cons (.d _ rfl) ?_ | refine .cons (.rs rfl) ?_))) (.cons (by first | exact .d _ | exact .rs rfl | exact .ref rfl | exact .nil _ | exact .tref rfl (by repeat (first | exact .nil | refine .cons (.d _ rfl) ?_ | refine .cons (.rs rfl) ?_))) (.cons (by first | exact .d _ | exact .rs rfl | exact .ref rfl | exact .nil _ | exact .tref rfl (by repeat (first | exact .nil | refine .cons (.d _ rfl) ?_ | refine .cons (.rs rfl) ?_))) .nil))) rfl (Within_p _ _ _) (by first | exact .v _ | exact D.Flat.tupF (by repeat first | exact trivial | refine ⟨.v _, ?_⟩) | exact D.Flat.aggF (by repeat first | exact trivial | refine ⟨.v _, ?_⟩))) ?_
          refine rg_q (q_not rfl) ?_
          refine rg_nil ?_
          refine aops_nil ?_
          change Awp _ _ _ _ _
          refine awp_cond rfl (fun hc13 => ?_) (fun hc13 => ?_)
          ·
            (try simp only [decide_eq_true_eq, decide_eq_false_iff_not, Bool.and_eq_true, Bool.or_eq_true, Bool.and_eq_false_iff, Bool.or_eq_false_iff, Bool.not_eq_true', Bool.not_eq_false', Bool.not_true, Bool.not_false, bif_and, bif_or, Bool.not_not, ne_eq, Decidable.not_not, not_true_eq_false, not_false_eq_true, Int.not_le, Int.not_lt] at hc13)
            rw [if_pos (by simpa using hc13)] at hu
            refine awp_seq ?_
            refine awp_region 2 mixed (by kernel_rfl) ?_
            refine rg_q (q_assign (x := .d (.v _)) rfl) ?_
            refine rg_q (q_assign (x := .d (.v _)) rfl) ?_
            refine rg_nil ?_
            refine aops_nil ?_
            change Awp _ _ _ _ _
            refine awp_ret ?_
            refine ⟨_, (.cons (.tmp (by first | exact .d _ | exact .rs rfl | exact .ref rfl | exact .tref rfl (.cons (.d _ rfl) (.cons (.rs rfl) .nil)))) (.cons (.tmp (by first | exact .d _ | exact .rs rfl | exact .ref rfl | exact .tref rfl (.cons (.d _ rfl) (.cons (.rs rfl) .nil)))) .nil)), ?_⟩
            rw [hu]; rfl
          ·
            (try simp only [decide_eq_true_eq, decide_eq_false_iff_not, Bool.and_eq_true, Bool.or_eq_true, Bool.and_eq_false_iff, Bool.or_eq_false_iff, Bool.not_eq_true', Bool.not_eq_false', Bool.not_true, Bool.not_false, bif_and, bif_or, Bool.not_not, ne_eq, Decidable.not_not, not_true_eq_false, not_false_eq_true, Int.not_le, Int.not_lt] at hc13)
            have hm : inR 0 m 1000000000000 = true := by simpa using hc13
            rw [if_neg (by rw [hm]; simp)] at hu
            refine awp_skip ?_
            change Awp _ _ _ _ _
            refine awp_seq ?_
            refine awp_seq ?_
            refine awp_region 5 mixed (by kernel_rfl) ?_
            first | refine rg_q (q_fieldAddr fld106_0 rfl) ?_ | refine rg_q (q_fieldAddr_ref fld106_0 rfl) ?_
            first | refine rg_q (q_load sz31 rfl rfl) ?_ | refine rg_q (q_load_ref sz31 rfl rfl rfl) ?_ | refine rg_q (q_load_tb (x := .d _) sz31 rfl rfl rfl) ?_ | refine rg_q (q_load_tb (x := .rs _) sz31 rfl rfl rfl) ?_
            first | refine rg_q (q_len isl31 rfl (by first | exact len_map _ _ | rfl)) ?_ | refine rg_q (q_len_rs isl31 rfl rfl) ?_ | refine rg_q (q_len_nil isl31 rfl) ?_
            refine rg_q (q_sub rfl rfl (In64.mk (by omega) (by omega))) ?_
            refine rg_q (q_assign (x := .d (.v _)) rfl) ?_
            refine rg_nil ?_
            refine aops_nil ?_
            change Awp _ _ _ _ _
            first | refine awp_len (t := 60) rfl (fun hl60 => ?_) | skip
            (try simp only [List.length_map] at hl60)
            refine awp_block ?_
            refine awp_loopH [6, 7, 10, 11, 12, 13, 14, 63, 64, 65, 66, 67, 68, 69, 70, 71, 72, 73, 74, 75, 76, 77, 78, 79, 80, 81, 82, 83, 84, 85, 86, 87, 88, 89, 90, 91, 92, 93, 94, 95, 96, 97, 98, 99, 100, 101] [3] (α := Nat × Int) (fun q => [(10, T.i ((q.1 : Int) - 1))]) (fun q => [(3, .box (larC ⟨a.el, a.md, q.2⟩))]) (fun q => q.1 ≤ l.length ∧ crsK a p m l l.length = crsK a p m l q.1) (fun q => q.1) (l.length, a.ck) ⟨Nat.le_refl _, rfl⟩ ?_ ?_
            · exact le_head (ms := [3]) (by repeat (first | exact Out.refl _ | exact Out.head rfl rfl | (refine Out.put ?_ rfl) | (refine Out.site ?_ rfl) | (refine Out.putn ?_) | (refine Out.headIn ?_ rfl rfl rfl) | (refine Out.called ?_ rfl rfl))) ⟨(by first | rfl | (show T.i _ = T.i _; congr 1; omega)), trivial⟩ ⟨(by first | rfl | (show T.i _ = T.i _; congr 1; omega)), trivial⟩ rfl rfl rfl rfl
            ·
              intro q ⟨hk, hf⟩
              refine awp_seq ?_
              refine awp_seq ?_
              refine awp_region 2 mixed (by kernel_rfl) ?_
              refine rg_q (q_move (x := .d (.v _)) rfl) ?_
              refine rg_q (q_geq rfl rfl) ?_
              refine rg_nil ?_
              refine aops_nil ?_
              change Awp _ _ _ _ _
              refine awp_cond rfl (fun hc16 => ?_) (fun hc16 => ?_)
              ·
                (try simp only [decide_eq_true_eq, decide_eq_false_iff_not, Bool.and_eq_true, Bool.or_eq_true, Bool.and_eq_false_iff, Bool.or_eq_false_iff, Bool.not_eq_true', Bool.not_eq_false', Bool.not_true, Bool.not_false, bif_and, bif_or, Bool.not_not, ne_eq, Decidable.not_not, not_true_eq_false, not_false_eq_true, Int.not_le, Int.not_lt] at hc16)
                obtain ⟨k, c0⟩ := q
                simp only at hk hf hc16
                have hk1 : 1 ≤ k := by omega
                obtain ⟨c, hx⟩ : ∃ c, l[k - 1]? = some c := ⟨_, List.getElem?_eq_getElem (by omega)⟩
                have hcv : clkE c = 0 := clkF_ok he0 c (List.mem_of_getElem? hx)
                obtain ⟨g1, g2⟩ := clkE_ok hcv
                have hlw := wck_ok hla hcv
                have hat := crsK_at (a := a) (p := p) (m := m) hx
                have hpw : plcE (wck a c) p = 0 := hp
                rw [show k - 1 + 1 = k by omega] at hat
                refine awp_skip ?_
                change Awp _ _ _ _ _
                refine awp_seq ?_
                refine awp_block ?_
                refine awp_seq ?_
                refine awp_region 6 mixed (by kernel_rfl) ?_
                first | refine rg_q (q_fieldAddr fld106_0 rfl) ?_ | refine rg_q (q_fieldAddr_ref fld106_0 rfl) ?_
                first | refine rg_q (q_load sz31 rfl rfl) ?_ | refine rg_q (q_load_ref sz31 rfl rfl rfl) ?_ | refine rg_q (q_load_tb (x := .d _) sz31 rfl rfl rfl) ?_ | refine rg_q (q_load_tb (x := .rs _) sz31 rfl rfl rfl) ?_
                refine rg_q (q_move (x := .d (.v _)) rfl) ?_
                first | refine rg_q (q_indexAddr sl31 rfl rfl (by omega) (map_at (k := k - 1) (by omega) hx)) ?_ | refine rg_q (q_indexAddr_rs sl31 rfl rfl rfl (by omega) (by omega)) ?_
                first | refine rg_q (q_load sz3 rfl rfl) ?_ | refine rg_q (q_load_ref sz3 rfl rfl rfl) ?_ | refine rg_q (q_load_tb (x := .d _) sz3 rfl rfl rfl) ?_ | refine rg_q (q_load_tb (x := .rs _) sz3 rfl rfl rfl) ?_
                first | refine rg_q (q_fieldAddr fld26_2 rfl) ?_ | refine rg_q (q_fieldAddr_ref fld26_2 rfl) ?_
                refine rg_nil ?_
                first | refine aops_store sz3 rfl rfl (by first | exact .inl rfl | exact .inr ⟨_, rfl⟩) rfl rfl (by first | decide | simp; done | exact Nat.le_of_ble_eq_true rfl) rfl ?_ | refine aops_storeT (z := .rs _) sz3 rfl rfl rfl rfl (by first | decide | simp) rfl ?_ | refine aops_storeT (z := .d _) sz3 rfl rfl rfl rfl (by first | decide | simp) rfl ?_ | refine aops_storeTA sz3 rfl rfl (by first | exact .inl rfl | exact .inr ⟨_, rfl⟩) rfl rfl (by first | decide | simp) rfl ?_
                refine aops_nil ?_
                change Awp _ _ _ _ _
                refine awp_seq ?_
                refine awp_region 6 mixed (by kernel_rfl) ?_
                first | refine rg_q (q_loadA (ds := [_, _, _, _, _, _]) sz26 rfl rfl rfl) ?_ | refine rg_q (q_load_refA (ds := [_, _, _, _, _, _]) sz26 rfl rfl rfl rfl) ?_
                first | refine rg_q (q_loadA (ds := [_, _]) sz28 rfl rfl rfl) ?_ | refine rg_q (q_load_refA (ds := [_, _]) sz28 rfl rfl rfl rfl) ?_
                first | refine rg_q (q_call en23 (.cons rfl (.cons rfl .nil)) rfl (rfocus_p (wck a c) p (ckLar_wck hk0 hcv) hpw)) ?_ | refine rg_q (q_callF en23 (.cons (by first | exact .d _ | exact .rs rfl | exact .ref rfl | exact .nil _ | exact .tref rfl (by repeat (first | exact .nil | refine .cons (.d _ rfl) ?_ | refine .cons (.rs rfl) ?_))) (.cons (by first | exact .d _ | exact .rs rfl | exact .ref rfl | exact .nil _ | exact .tref rfl (by repeat (first | exact .nil | refine .cons (.d _ rfl) ?_ | refine .cons (.rs rfl) ?_))) .nil)) rfl (rfocus_p (wck a c) p (ckLar_wck hk0 hcv) hpw) (by first | exact .v _ | exact D.Flat.tupF (by repeat first | exact trivial | refine ⟨.v _, ?_⟩) | exact D.Flat.aggF (by repeat first | exact trivial | refine ⟨.v _, ?_⟩))) ?_
                refine rg_q (q_move (x := .d (.tup _)) rfl) ?_
                refine rg_q (q_extract rfl rfl) ?_
                refine rg_q (q_extract rfl rfl) ?_
                refine rg_nil ?_
                refine aops_alloc zr33 rfl rfl rfl ?_
                first | refine aops_store sz33 rfl rfl (by first | exact .inl rfl | exact .inr ⟨_, rfl⟩) rfl rfl (by first | decide | simp; done | exact Nat.le_of_ble_eq_true rfl) rfl ?_ | refine aops_storeT (z := .rs _) sz33 rfl rfl rfl rfl (by first | decide | simp) rfl ?_ | refine aops_storeT (z := .d _) sz33 rfl rfl rfl rfl (by first | decide | simp) rfl ?_ | refine aops_storeTA sz33 rfl rfl (by first | exact .inl rfl | exact .inr ⟨_, rfl⟩) rfl rfl (by first | decide | simp) rfl ?_
                refine aops_q rfl (q_assign (x := .d (.v _)) rfl) ?_
                refine aops_nil ?_
                change Awp _ _ _ _ _
                refine awp_seq ?_
                refine awp_seq ?_
                refine awp_region 2 mixed (by kernel_rfl) ?_
                refine rg_q (q_move (x := .d (.v _)) rfl) ?_
                refine rg_q (q_neq rfl rfl) ?_
                refine rg_nil ?_
                refine aops_nil ?_
                change Awp _ _ _ _ _
                refine awp_cond rfl (fun hc20 => ?_) (fun hc20 => ?_)
                ·
                  (try simp only [decide_eq_true_eq, decide_eq_false_iff_not, Bool.and_eq_true, Bool.or_eq_true, Bool.and_eq_false_iff, Bool.or_eq_false_iff, Bool.not_eq_true', Bool.not_eq_false', Bool.not_true, Bool.not_false, bif_and, bif_or, Bool.not_not, ne_eq, Decidable.not_not, not_true_eq_false, not_false_eq_true, Int.not_le, Int.not_lt] at hc20)
                  have hno : ¬ crsO a p m c := fun q => hc20 q.1
                  refine awp_exit ?_
                  change Awp _ _ _ _ _
                  refine awp_region 3 mixed (by kernel_rfl) ?_
                  refine rg_q (q_move (x := .d (.v _)) rfl) ?_
                  refine rg_q (q_sub rfl rfl (In64.mk (by omega) (by omega))) ?_
                  refine rg_q (q_assign (x := .d (.v _)) rfl) ?_
                  refine rg_nil ?_
                  refine aops_nil ?_
                  refine ⟨(k - 1, c), ⟨by simp only; omega, by rw [hf, hat, if_neg hno]⟩, by simp only; omega, ?_⟩
                  exact le_head (ms := [3]) (by repeat (first | exact Out.refl _ | exact Out.head rfl rfl | (refine Out.put ?_ rfl) | (refine Out.site ?_ rfl) | (refine Out.putn ?_) | (refine Out.headIn ?_ rfl rfl rfl) | (refine Out.called ?_ rfl rfl))) ⟨(by first | rfl | (show T.i _ = T.i _; congr 1; omega)), trivial⟩ ⟨(by first | rfl | (show T.i _ = T.i _; congr 1; omega)), trivial⟩ rfl rfl rfl rfl
                ·
                  (try simp only [decide_eq_true_eq, decide_eq_false_iff_not, Bool.and_eq_true, Bool.or_eq_true, Bool.and_eq_false_iff, Bool.or_eq_false_iff, Bool.not_eq_true', Bool.not_eq_false', Bool.not_true, Bool.not_false, bif_and, bif_or, Bool.not_not, ne_eq, Decidable.not_not, not_true_eq_false, not_false_eq_true, Int.not_le, Int.not_lt] at hc20)
                  rcases bltR_cases (fcI (wck a c) p) (wck a c).ck (wck a c).el.length with ⟨hT, hb⟩ | hb
                  rotate_left
                  · exfalso; rw [hb] at hc20; revert hc20; decide
                  have ho := wck_opn (p := p) hk0 hla hcv hT
                  have hb0 : (bltR (fcI (wck a c) p) (wck a c).ck (wck a c).el.length).2 = 0 := by rw [hb]
                  have hb1 : (bltR (fcI (wck a c) p) (wck a c).ck (wck a c).el.length).1 = fxL (wck a c) p := by rw [hb]; rfl
                  rw [hb1]
                  refine awp_skip ?_
                  change Awp _ _ _ _ _
                  refine awp_seq ?_
                  refine awp_region 7 mixed (by kernel_rfl) ?_
                  first | refine rg_q (q_loadA (ds := [_, _, _, _, _, _]) sz26 rfl rfl rfl) ?_ | refine rg_q (q_load_refA (ds := [_, _, _, _, _, _]) sz26 rfl rfl rfl rfl) ?_
                  first | refine rg_q (q_loadA (ds := [_, _]) sz33 rfl rfl rfl) ?_ | refine rg_q (q_load_refA (ds := [_, _]) sz33 rfl rfl rfl rfl) ?_
                  first | refine rg_q (q_loadA (ds := [_, _]) sz28 rfl rfl rfl) ?_ | refine rg_q (q_load_refA (ds := [_, _]) sz28 rfl rfl rfl rfl) ?_
                  first | refine rg_q (q_call en29 (.cons rfl (.cons rfl (.cons rfl .nil))) rfl (rspread_p (wck a c) (fxL (wck a c) p) p ho hpw)) ?_ | refine rg_q (q_callF en29 (.cons (by first | exact .d _ | exact .rs rfl | exact .ref rfl | exact .nil _ | exact .tref rfl (by repeat (first | exact .nil | refine .cons (.d _ rfl) ?_ | refine .cons (.rs rfl) ?_))) (.cons (by first | exact .d _ | exact .rs rfl | exact .ref rfl | exact .nil _ | exact .tref rfl (by repeat (first | exact .nil | refine .cons (.d _ rfl) ?_ | refine .cons (.rs rfl) ?_))) (.cons (by first | exact .d _ | exact .rs rfl | exact .ref rfl | exact .nil _ | exact .tref rfl (by repeat (first | exact .nil | refine .cons (.d _ rfl) ?_ | refine .cons (.rs rfl) ?_))) .nil))) rfl (rspread_p (wck a c) (fxL (wck a c) p) p ho hpw) (by first | exact .v _ | exact D.Flat.tupF (by repeat first | exact trivial | refine ⟨.v _, ?_⟩) | exact D.Flat.aggF (by repeat first | exact trivial | refine ⟨.v _, ?_⟩))) ?_
                  refine rg_q (q_move (x := .d (.tup _)) rfl) ?_
                  refine rg_q (q_extract rfl rfl) ?_
                  refine rg_q (q_extract rfl rfl) ?_
                  refine rg_nil ?_
                  refine aops_alloc zr49 rfl rfl rfl ?_
                  first | refine aops_store sz49 rfl rfl (by first | exact .inl rfl | exact .inr ⟨_, rfl⟩) rfl rfl (by first | decide | simp; done | exact Nat.le_of_ble_eq_true rfl) rfl ?_ | refine aops_storeT (z := .rs _) sz49 rfl rfl rfl rfl (by first | decide | simp) rfl ?_ | refine aops_storeT (z := .d _) sz49 rfl rfl rfl rfl (by first | decide | simp) rfl ?_ | refine aops_storeTA sz49 rfl rfl (by first | exact .inl rfl | exact .inr ⟨_, rfl⟩) rfl rfl (by first | decide | simp) rfl ?_
                  refine aops_q rfl (q_assign (x := .d (.v _)) rfl) ?_
                  refine aops_nil ?_
                  change Awp _ _ _ _ _
                  refine awp_seq ?_
                  refine awp_region 9 mixed (by kernel_rfl) ?_
                  refine rg_q (q_move (x := .d (.v _)) rfl) ?_
                  refine rg_q (q_eql rfl rfl) ?_
                  refine rg_q (q_move (x := .d (.v _)) rfl) ?_
                  first | refine rg_g rfl rfl (fun hG => (q_fieldAddr fld49_1 rfl)) ?_ | refine rg_g rfl rfl (fun hG => (q_fieldAddr_ref fld49_1 rfl)) ?_
                  first | refine rg_g rfl rfl (fun hG => (q_load sz3 rfl rfl)) ?_ | refine rg_g rfl rfl (fun hG => (q_load_ref sz3 rfl rfl rfl)) ?_ | refine rg_g rfl rfl (fun hG => (q_load_tb (x := .d _) sz3 rfl rfl rfl)) ?_ | refine rg_g rfl rfl (fun hG => (q_load_tb (x := .rs _) sz3 rfl rfl rfl)) ?_
                  first | refine rg_g rfl rfl (fun hG => (q_fieldAddr fld106_1 rfl)) ?_ | refine rg_g rfl rfl (fun hG => (q_fieldAddr_ref fld106_1 rfl)) ?_
                  first | refine rg_g rfl rfl (fun hG => (q_load sz3 rfl rfl)) ?_ | refine rg_g rfl rfl (fun hG => (q_load_ref sz3 rfl rfl rfl)) ?_ | refine rg_g rfl rfl (fun hG => (q_load_tb (x := .d _) sz3 rfl rfl rfl)) ?_ | refine rg_g rfl rfl (fun hG => (q_load_tb (x := .rs _) sz3 rfl rfl rfl)) ?_
                  refine rg_g rfl rfl (fun hG => (q_leq rfl rfl)) ?_
                  first | refine rg_pick rfl rfl rfl rfl rfl rfl ?_ | refine rg_q (q_pick rfl rfl rfl) ?_
                  refine rg_nil ?_
                  refine aops_nil ?_
                  change Awp _ _ _ _ _
                  refine awp_cond rfl (fun hc22 => ?_) (fun hc22 => ?_)
                  ·
                    (try simp only [decide_eq_true_eq, decide_eq_false_iff_not, Bool.and_eq_true, Bool.or_eq_true, Bool.and_eq_false_iff, Bool.or_eq_false_iff, Bool.not_eq_true', Bool.not_eq_false', Bool.not_true, Bool.not_false, bif_and, bif_or, Bool.not_not, ne_eq, Decidable.not_not, not_true_eq_false, not_false_eq_true, Int.not_le, Int.not_lt] at hc22)
                    have hyes : crsO a p m c := ⟨hb0, hc22.1, hc22.2⟩
                    refine awp_seq ?_
                    refine awp_region 7 mixed (by kernel_rfl) ?_
                    first | refine rg_q (q_fieldAddr fld106_0 rfl) ?_ | refine rg_q (q_fieldAddr_ref fld106_0 rfl) ?_
                    first | refine rg_q (q_load sz31 rfl rfl) ?_ | refine rg_q (q_load_ref sz31 rfl rfl rfl) ?_ | refine rg_q (q_load_tb (x := .d _) sz31 rfl rfl rfl) ?_ | refine rg_q (q_load_tb (x := .rs _) sz31 rfl rfl rfl) ?_
                    refine rg_q (q_move (x := .d (.v _)) rfl) ?_
                    first | refine rg_q (q_indexAddr sl31 rfl rfl (by omega) (map_at (k := k - 1) (by omega) hx)) ?_ | refine rg_q (q_indexAddr_rs sl31 rfl rfl rfl (by omega) (by omega)) ?_
                    first | refine rg_q (q_load sz3 rfl rfl) ?_ | refine rg_q (q_load_ref sz3 rfl rfl rfl) ?_ | refine rg_q (q_load_tb (x := .d _) sz3 rfl rfl rfl) ?_ | refine rg_q (q_load_tb (x := .rs _) sz3 rfl rfl rfl) ?_
                    refine rg_q (q_assign (x := .d (.v _)) rfl) ?_
                    refine rg_q (q_assign (x := .d (.v _)) rfl) ?_
                    refine rg_nil ?_
                    refine aops_nil ?_
                    change Awp _ _ _ _ _
                    refine awp_ret ?_
                    refine ⟨_, (.cons (.tmp (by first | exact .d _ | exact .rs rfl | exact .ref rfl | exact .tref rfl (.cons (.d _ rfl) (.cons (.rs rfl) .nil)))) (.cons (.tmp (by first | exact .d _ | exact .rs rfl | exact .ref rfl | exact .tref rfl (.cons (.d _ rfl) (.cons (.rs rfl) .nil)))) .nil)), ?_⟩
                    rw [hu, hf, hat, if_pos hyes]; rfl
                  ·
                    (try simp only [decide_eq_true_eq, decide_eq_false_iff_not, Bool.and_eq_true, Bool.or_eq_true, Bool.and_eq_false_iff, Bool.or_eq_false_iff, Bool.not_eq_true', Bool.not_eq_false', Bool.not_true, Bool.not_false, bif_and, bif_or, Bool.not_not, ne_eq, Decidable.not_not, not_true_eq_false, not_false_eq_true, Int.not_le, Int.not_lt] at hc22)
                    have hno : ¬ crsO a p m c := fun q => by
                      have q1 := q.2.1
                      have q2 := q.2.2
                      omega
                    refine awp_skip ?_
                    change Awp _ _ _ _ _
                    refine awp_region 3 mixed (by kernel_rfl) ?_
                    refine rg_q (q_move (x := .d (.v _)) rfl) ?_
                    refine rg_q (q_sub rfl rfl (In64.mk (by omega) (by omega))) ?_
                    refine rg_q (q_assign (x := .d (.v _)) rfl) ?_
                    refine rg_nil ?_
                    refine aops_nil ?_
                    refine ⟨(k - 1, c), ⟨by simp only; omega, by rw [hf, hat, if_neg hno]⟩, by simp only; omega, ?_⟩
                    exact le_head (ms := [3]) (by repeat (first | exact Out.refl _ | exact Out.head rfl rfl | (refine Out.put ?_ rfl) | (refine Out.site ?_ rfl) | (refine Out.putn ?_) | (refine Out.headIn ?_ rfl rfl rfl) | (refine Out.called ?_ rfl rfl))) ⟨(by first | rfl | (show T.i _ = T.i _; congr 1; omega)), trivial⟩ ⟨(by first | rfl | (show T.i _ = T.i _; congr 1; omega)), trivial⟩ rfl rfl rfl rfl
              ·
                (try simp only [decide_eq_true_eq, decide_eq_false_iff_not, Bool.and_eq_true, Bool.or_eq_true, Bool.and_eq_false_iff, Bool.or_eq_false_iff, Bool.not_eq_true', Bool.not_eq_false', Bool.not_true, Bool.not_false, bif_and, bif_or, Bool.not_not, ne_eq, Decidable.not_not, not_true_eq_false, not_false_eq_true, Int.not_le, Int.not_lt] at hc16)
                obtain ⟨k, c0⟩ := q
                simp only at hk hf hc16
                have hfin : crsK a p m l l.length = (0, 12) := by rw [hf, show k = 0 by omega]; rfl
                refine awp_exit ?_
                change Awp _ _ _ _ _
                refine awp_seq ?_
                refine awp_region 2 mixed (by kernel_rfl) ?_
                refine rg_q (q_assign (x := .d (.v _)) rfl) ?_
                refine rg_q (q_assign (x := .d (.v _)) rfl) ?_
                refine rg_nil ?_
                refine aops_nil ?_
                change Awp _ _ _ _ _
                refine awp_ret ?_
                refine ⟨_, (.cons (.tmp (by first | exact .d _ | exact .rs rfl | exact .ref rfl | exact .tref rfl (.cons (.d _ rfl) (.cons (.rs rfl) .nil)))) (.cons (.tmp (by first | exact .d _ | exact .rs rfl | exact .ref rfl | exact .tref rfl (.cons (.d _ rfl) (.cons (.rs rfl) .nil)))) .nil)), ?_⟩
                rw [hu, hfin]; rfl
set_option maxRecDepth 100000 in
theorem lawClocks_p (a : Lar) (p : Int × Int) (l : List Int) (m : Int) : PCG Tryz.prog GW 12 [.agg (larC a), .agg (shC p), .agg [.sl 1 (l.map iC), .v (.int .i64 (m))]] (.v (.bool (true))) := by
  refine pcg_of_awpN gw_keep Tryz.func12 rfl Tryz.ntmps12 (rs := [.tmp 6]) Tryz.results12 (by simp) fun w0 hmine hrnd hpn hG => ?_
  refine awp_seq ?_
  refine awp_region 4 mixed (by kernel_rfl) ?_
  refine rg_q (q_box rfl (by first | exact .inl rfl | exact .inr ⟨_, rfl⟩)) ?_
  refine rg_q (q_box rfl (by first | exact .inl rfl | exact .inr ⟨_, rfl⟩)) ?_
  refine rg_q (q_box rfl (by first | exact .inl rfl | exact .inr ⟨_, rfl⟩)) ?_
  refine rg_q (q_assign (x := .d (.v _)) rfl) ?_
  refine rg_nil ?_
  refine aops_nil ?_
  change Awp _ _ _ _ _
  refine awp_seq ?_
  refine awp_seq ?_
  refine awp_region 2 mixed (by kernel_rfl) ?_
  first | refine rg_q (q_callG en17 .nil rfl hG (awake_p)) ?_ | refine rg_q (q_callFG en17 .nil rfl hG (awake_p) (by first | exact .v _ | exact D.Flat.tupF (by repeat first | exact trivial | refine ⟨.v _, ?_⟩) | exact D.Flat.aggF (by repeat first | exact trivial | refine ⟨.v _, ?_⟩))) ?_
  refine rg_q (q_not rfl) ?_
  refine rg_nil ?_
  refine aops_nil ?_
  change Awp _ _ _ _ _
  refine awp_cond rfl (fun hc1 => ?_) (fun hc1 => ?_)
  ·
    simp at hc1
  ·
    (try simp only [decide_eq_true_eq, decide_eq_false_iff_not, Bool.and_eq_true, Bool.or_eq_true, Bool.and_eq_false_iff, Bool.or_eq_false_iff, Bool.not_eq_true', Bool.not_eq_false', Bool.not_true, Bool.not_false, bif_and, bif_or, Bool.not_not, ne_eq, Decidable.not_not, not_true_eq_false, not_false_eq_true, Int.not_le, Int.not_lt] at hc1)
    refine awp_skip ?_
    change Awp _ _ _ _ _
    refine awp_seq ?_
    refine awp_seq ?_
    refine awp_region 23 mixed (by kernel_rfl) ?_
    first | refine rg_q (q_fieldAddr fld26_0 rfl) ?_ | refine rg_q (q_fieldAddr_ref fld26_0 rfl) ?_
    first | refine rg_q (q_load sz22 rfl rfl) ?_ | refine rg_q (q_load_ref sz22 rfl rfl rfl) ?_ | refine rg_q (q_load_tb (x := .d _) sz22 rfl rfl rfl) ?_ | refine rg_q (q_load_tb (x := .rs _) sz22 rfl rfl rfl) ?_
    first | refine rg_q (q_len isl22 rfl (by first | exact len_map _ _ | rfl)) ?_ | refine rg_q (q_len_rs isl22 rfl rfl) ?_ | refine rg_q (q_len_nil isl22 rfl) ?_
    first | refine rg_q (q_call en18 (.cons rfl .nil) rfl (few_p _)) ?_ | refine rg_q (q_callF en18 (.cons (by first | exact .d _ | exact .rs rfl | exact .ref rfl | exact .nil _ | exact .tref rfl (by repeat (first | exact .nil | refine .cons (.d _ rfl) ?_ | refine .cons (.rs rfl) ?_))) .nil) rfl (few_p _) (by first | exact .v _ | exact D.Flat.tupF (by repeat first | exact trivial | refine ⟨.v _, ?_⟩) | exact D.Flat.aggF (by repeat first | exact trivial | refine ⟨.v _, ?_⟩))) ?_
    refine rg_q (q_not rfl) ?_
    refine rg_q (q_move (x := .d (.v _)) rfl) ?_
    first | refine rg_g rfl rfl (fun hG => (q_fieldAddr fld106_0 rfl)) ?_ | refine rg_g rfl rfl (fun hG => (q_fieldAddr_ref fld106_0 rfl)) ?_
    first | refine rg_g rfl rfl (fun hG => (q_load sz31 rfl rfl)) ?_ | refine rg_g rfl rfl (fun hG => (q_load_ref sz31 rfl rfl rfl)) ?_ | refine rg_g rfl rfl (fun hG => (q_load_tb (x := .d _) sz31 rfl rfl rfl)) ?_ | refine rg_g rfl rfl (fun hG => (q_load_tb (x := .rs _) sz31 rfl rfl rfl)) ?_
    first | refine rg_g rfl rfl (fun hG => (q_len isl31 rfl (by first | exact len_map _ _ | rfl))) ?_ | refine rg_g rfl rfl (fun hG => (q_len_rs isl31 rfl rfl)) ?_ | refine rg_g rfl rfl (fun hG => (q_len_nil isl31 rfl)) ?_
    refine rg_g rfl rfl (fun hG => (q_gtr rfl rfl)) ?_
    refine rg_g rfl rfl (fun hG => (q_move (x := .d (.v _)) rfl)) ?_
    first | refine rg_g rfl rfl (fun hG => (q_fieldAddr fld106_0 rfl)) ?_ | refine rg_g rfl rfl (fun hG => (q_fieldAddr_ref fld106_0 rfl)) ?_
    first | refine rg_g rfl rfl (fun hG => (q_load sz31 rfl rfl)) ?_ | refine rg_g rfl rfl (fun hG => (q_load_ref sz31 rfl rfl rfl)) ?_ | refine rg_g rfl rfl (fun hG => (q_load_tb (x := .d _) sz31 rfl rfl rfl)) ?_ | refine rg_g rfl rfl (fun hG => (q_load_tb (x := .rs _) sz31 rfl rfl rfl)) ?_
    first | refine rg_g rfl rfl (fun hG => (q_len isl31 rfl (by first | exact len_map _ _ | rfl))) ?_ | refine rg_g rfl rfl (fun hG => (q_len_rs isl31 rfl rfl)) ?_ | refine rg_g rfl rfl (fun hG => (q_len_nil isl31 rfl)) ?_
    refine rg_g rfl rfl (fun hG => (q_leq rfl rfl)) ?_
    refine rg_pickg rfl rfl rfl rfl rfl rfl rfl rfl ?_
    first | refine rg_pick rfl rfl rfl rfl rfl rfl ?_ | refine rg_q (q_pick rfl rfl rfl) ?_
    refine rg_q (q_move (x := .d (.v _)) rfl) ?_
    first | refine rg_g rfl rfl (fun hG => (q_fieldAddr fld106_0 rfl)) ?_ | refine rg_g rfl rfl (fun hG => (q_fieldAddr_ref fld106_0 rfl)) ?_
    first | refine rg_g rfl rfl (fun hG => (q_load sz31 rfl rfl)) ?_ | refine rg_g rfl rfl (fun hG => (q_load_ref sz31 rfl rfl rfl)) ?_ | refine rg_g rfl rfl (fun hG => (q_load_tb (x := .d _) sz31 rfl rfl rfl)) ?_ | refine rg_g rfl rfl (fun hG => (q_load_tb (x := .rs _) sz31 rfl rfl rfl)) ?_
    first | refine rg_g rfl rfl (fun hG => (q_len isl31 rfl (by first | exact len_map _ _ | rfl))) ?_ | refine rg_g rfl rfl (fun hG => (q_len_rs isl31 rfl rfl)) ?_ | refine rg_g rfl rfl (fun hG => (q_len_nil isl31 rfl)) ?_
    refine rg_g rfl rfl (fun hG => (q_gtr rfl rfl)) ?_
    first | refine rg_pick rfl rfl rfl rfl rfl rfl ?_ | refine rg_q (q_pick rfl rfl rfl) ?_
    refine rg_nil ?_
    refine aops_nil ?_
    change Awp _ _ _ _ _
    first | refine awp_len (t := 14) rfl (fun hl14 => ?_) | skip
    (try simp only [List.length_map] at hl14)
    refine awp_cond rfl (fun hc3 => ?_) (fun hc3 => ?_)
    ·
      (try simp only [decide_eq_true_eq, decide_eq_false_iff_not, Bool.and_eq_true, Bool.or_eq_true, Bool.and_eq_false_iff, Bool.or_eq_false_iff, Bool.not_eq_true', Bool.not_eq_false', Bool.not_true, Bool.not_false, bif_and, bif_or, Bool.not_not, ne_eq, Decidable.not_not, not_true_eq_false, not_false_eq_true, Int.not_le, Int.not_lt] at hc3)
      refine awp_seq ?_
      refine awp_region 1 mixed (by kernel_rfl) ?_
      refine rg_q (q_assign (x := .d (.v _)) rfl) ?_
      refine rg_nil ?_
      refine aops_nil ?_
      change Awp _ _ _ _ _
      refine awp_ret ?_
      refine ⟨_, (.cons (.tmp (by first | exact .d _ | exact .rs rfl | exact .ref rfl | exact .tref rfl (.cons (.d _ rfl) (.cons (.rs rfl) .nil)))) .nil), ?_⟩
      rfl
    ·
      (try simp only [decide_eq_true_eq, decide_eq_false_iff_not, Bool.and_eq_true, Bool.or_eq_true, Bool.and_eq_false_iff, Bool.or_eq_false_iff, Bool.not_eq_true', Bool.not_eq_false', Bool.not_true, Bool.not_false, bif_and, bif_or, Bool.not_not, ne_eq, Decidable.not_not, not_true_eq_false, not_false_eq_true, Int.not_le, Int.not_lt] at hc3)
      try simp only [List.length_map] at hc3
      have hl1 : a.el.length ≤ 18 := by first | omega | (simp_all; omega)
      have hl3 : l.length ≤ 22 := by first | omega | (simp_all; omega)
      refine awp_skip ?_
      change Awp _ _ _ _ _
      refine awp_seq ?_
      refine awp_region 15 mixed (by kernel_rfl) ?_
      first | refine rg_q (q_loadA (ds := [_, _, _, _, _, _]) sz26 rfl rfl rfl) ?_ | refine rg_q (q_load_refA (ds := [_, _, _, _, _, _]) sz26 rfl rfl rfl rfl) ?_
      first | refine rg_q (q_call en20 (.cons rfl .nil) rfl (copyLar_p _ (by omega))) ?_ | refine rg_q (q_callF en20 (.cons (by first | exact .d _ | exact .rs rfl | exact .ref rfl | exact .nil _ | exact .tref rfl (by repeat (first | exact .nil | refine .cons (.d _ rfl) ?_ | refine .cons (.rs rfl) ?_))) .nil) rfl (copyLar_p _ (by omega)) (by first | exact .v _ | exact D.Flat.tupF (by repeat first | exact trivial | refine ⟨.v _, ?_⟩) | exact D.Flat.aggF (by repeat first | exact trivial | refine ⟨.v _, ?_⟩))) ?_
      first | refine rg_q (q_loadA (ds := [_, _]) sz28 rfl rfl rfl) ?_ | refine rg_q (q_load_refA (ds := [_, _]) sz28 rfl rfl rfl rfl) ?_
      first | refine rg_q (q_fieldAddr fld106_0 rfl) ?_ | refine rg_q (q_fieldAddr_ref fld106_0 rfl) ?_
      first | refine rg_q (q_load sz31 rfl rfl) ?_ | refine rg_q (q_load_ref sz31 rfl rfl rfl) ?_ | refine rg_q (q_load_tb (x := .d _) sz31 rfl rfl rfl) ?_ | refine rg_q (q_load_tb (x := .rs _) sz31 rfl rfl rfl) ?_
      first | refine rg_q (q_call en61 (.cons rfl .nil) rfl (copyInts_p _ (by omega))) ?_ | refine rg_q (q_callF en61 (.cons (by first | exact .d _ | exact .rs rfl | exact .ref rfl | exact .nil _ | exact .tref rfl (by repeat (first | exact .nil | refine .cons (.d _ rfl) ?_ | refine .cons (.rs rfl) ?_))) .nil) rfl (copyInts_p _ (by omega)) (by first | exact .v _ | exact D.Flat.tupF (by repeat first | exact trivial | refine ⟨.v _, ?_⟩) | exact D.Flat.aggF (by repeat first | exact trivial | refine ⟨.v _, ?_⟩))) ?_
      first | refine rg_q (q_fieldAddr fld106_1 rfl) ?_ | refine rg_q (q_fieldAddr_ref fld106_1 rfl) ?_
      first | refine rg_q (q_load sz3 rfl rfl) ?_ | refine rg_q (q_load_ref sz3 rfl rfl rfl) ?_ | refine rg_q (q_load_tb (x := .d _) sz3 rfl rfl rfl) ?_ | refine rg_q (q_load_tb (x := .rs _) sz3 rfl rfl rfl) ?_
      refine rg_q (q_build (cs := [_, _]) pl106 zr106 rfl (.cons rfl (by first | exact .inl rfl | exact .inr ⟨_, rfl⟩) (.cons rfl (by first | exact .inl rfl | exact .inr ⟨_, rfl⟩) .nil)) ⟨⟨rfl, by decide⟩, ⟨rfl, by decide⟩, trivial⟩ rfl) ?_
      first | refine rg_q (q_call en60 (.cons rfl (.cons rfl (.cons rfl .nil))) rfl (coarsest_p _ _ _ _)) ?_ | refine rg_q (q_callF en60 (.cons (by first | exact .d _ | exact .rs rfl | exact .ref rfl | exact .nil _ | exact .tref rfl (by repeat (first | exact .nil | refine .cons (.d _ rfl) ?_ | refine .cons (.rs rfl) ?_))) (.cons (by first | exact .d _ | exact .rs rfl | exact .ref rfl | exact .nil _ | exact .tref rfl (by repeat (first | exact .nil | refine .cons (.d _ rfl) ?_ | refine .cons (.rs rfl) ?_))) (.cons (by first | exact .d _ | exact .rs rfl | exact .ref rfl | exact .nil _ | exact .tref rfl (by repeat (first | exact .nil | refine .cons (.d _ rfl) ?_ | refine .cons (.rs rfl) ?_))) .nil))) rfl (coarsest_p _ _ _ _) (by first | exact .v _ | exact D.Flat.tupF (by repeat first | exact trivial | refine ⟨.v _, ?_⟩) | exact D.Flat.aggF (by repeat first | exact trivial | refine ⟨.v _, ?_⟩))) ?_
      refine rg_q (q_move (x := .d (.tup _)) rfl) ?_
      refine rg_q (q_extract rfl rfl) ?_
      refine rg_q (q_extract rfl rfl) ?_
      refine rg_q (q_assign (x := .d (.v _)) rfl) ?_
      refine rg_q (q_assign (x := .d (.v _)) rfl) ?_
      refine rg_nil ?_
      refine aops_nil ?_
      change Awp _ _ _ _ _
      refine awp_seq ?_
      refine awp_region 3 mixed (by kernel_rfl) ?_
      first | refine rg_q (q_loadA (ds := [_, _, _, _, _, _]) sz26 rfl rfl rfl) ?_ | refine rg_q (q_load_refA (ds := [_, _, _, _, _, _]) sz26 rfl rfl rfl rfl) ?_
      first | refine rg_q (q_call en21 (.cons rfl .nil) rfl (yarrayErr_p _)) ?_ | refine rg_q (q_callF en21 (.cons (by first | exact .d _ | exact .rs rfl | exact .ref rfl | exact .nil _ | exact .tref rfl (by repeat (first | exact .nil | refine .cons (.d _ rfl) ?_ | refine .cons (.rs rfl) ?_))) .nil) rfl (yarrayErr_p _) (by first | exact .v _ | exact D.Flat.tupF (by repeat first | exact trivial | refine ⟨.v _, ?_⟩) | exact D.Flat.aggF (by repeat first | exact trivial | refine ⟨.v _, ?_⟩))) ?_
      refine rg_q (q_assign (x := .d (.v _)) rfl) ?_
      refine rg_nil ?_
      refine aops_nil ?_
      change Awp _ _ _ _ _
      refine awp_seq ?_
      refine awp_seq ?_
      refine awp_region 2 mixed (by kernel_rfl) ?_
      refine rg_q (q_move (x := .d (.v _)) rfl) ?_
      refine rg_q (q_eql rfl rfl) ?_
      refine rg_nil ?_
      refine aops_nil ?_
      change Awp _ _ _ _ _
      refine awp_cond rfl (fun hc7 => ?_) (fun hc7 => ?_)
      ·
        (try simp only [decide_eq_true_eq, decide_eq_false_iff_not, Bool.and_eq_true, Bool.or_eq_true, Bool.and_eq_false_iff, Bool.or_eq_false_iff, Bool.not_eq_true', Bool.not_eq_false', Bool.not_true, Bool.not_false, bif_and, bif_or, Bool.not_not, ne_eq, Decidable.not_not, not_true_eq_false, not_false_eq_true, Int.not_le, Int.not_lt] at hc7)
        have hk0 : (ckLar a).2 = 0 := by omega
        obtain ⟨_, _, _, _, _, _, t1, t2⟩ := (lar_ok hk0).1.md
        have he : focE a p = plcE a p := by unfold focE; rw [if_neg (fun q => q hk0)]
        refine awp_region 4 mixed (by kernel_rfl) ?_
        first | refine rg_q (q_loadA (ds := [_, _, _, _, _, _]) sz26 rfl rfl rfl) ?_ | refine rg_q (q_load_refA (ds := [_, _, _, _, _, _]) sz26 rfl rfl rfl rfl) ?_
        first | refine rg_q (q_loadA (ds := [_, _]) sz28 rfl rfl rfl) ?_ | refine rg_q (q_load_refA (ds := [_, _]) sz28 rfl rfl rfl rfl) ?_
        first | refine rg_q (q_call en22 (.cons rfl (.cons rfl .nil)) rfl (rplaceErr_p a p t1 t2)) ?_ | refine rg_q (q_callF en22 (.cons (by first | exact .d _ | exact .rs rfl | exact .ref rfl | exact .nil _ | exact .tref rfl (by repeat (first | exact .nil | refine .cons (.d _ rfl) ?_ | refine .cons (.rs rfl) ?_))) (.cons (by first | exact .d _ | exact .rs rfl | exact .ref rfl | exact .nil _ | exact .tref rfl (by repeat (first | exact .nil | refine .cons (.d _ rfl) ?_ | refine .cons (.rs rfl) ?_))) .nil)) rfl (rplaceErr_p a p t1 t2) (by first | exact .v _ | exact D.Flat.tupF (by repeat first | exact trivial | refine ⟨.v _, ?_⟩) | exact D.Flat.aggF (by repeat first | exact trivial | refine ⟨.v _, ?_⟩))) ?_
        refine rg_q (q_assign (x := .d (.v _)) rfl) ?_
        refine rg_nil ?_
        refine aops_nil ?_
        change Awp _ _ _ _ _
        refine awp_seq ?_
        refine awp_region 1 mixed (by kernel_rfl) ?_
        refine rg_q (q_assign (x := .d (.v _)) rfl) ?_
        refine rg_nil ?_
        refine aops_nil ?_
        change Awp _ _ _ _ _
        refine awp_seq ?_
        refine awp_seq ?_
        refine awp_region 2 mixed (by kernel_rfl) ?_
        refine rg_q (q_move (x := .d (.v _)) rfl) ?_
        refine rg_q (q_eql rfl rfl) ?_
        refine rg_nil ?_
        refine aops_nil ?_
        change Awp _ _ _ _ _
        refine awp_cond rfl (fun hc10 => ?_) (fun hc10 => ?_)
        ·
          (try simp only [decide_eq_true_eq, decide_eq_false_iff_not, Bool.and_eq_true, Bool.or_eq_true, Bool.and_eq_false_iff, Bool.or_eq_false_iff, Bool.not_eq_true', Bool.not_eq_false', Bool.not_true, Bool.not_false, bif_and, bif_or, Bool.not_not, ne_eq, Decidable.not_not, not_true_eq_false, not_false_eq_true, Int.not_le, Int.not_lt] at hc10)
          have hfo : focE a p = 0 := by omega
          have hz : crsR a p l m = crsN a p l m := by unfold crsR; rw [if_neg (fun q => q hfo)]
          refine awp_region 9 mixed (by kernel_rfl) ?_
          first | refine rg_q (q_loadA (ds := [_, _, _, _, _, _]) sz26 rfl rfl rfl) ?_ | refine rg_q (q_load_refA (ds := [_, _, _, _, _, _]) sz26 rfl rfl rfl rfl) ?_
          first | refine rg_q (q_loadA (ds := [_, _]) sz28 rfl rfl rfl) ?_ | refine rg_q (q_load_refA (ds := [_, _]) sz28 rfl rfl rfl rfl) ?_
          first | refine rg_q (q_loadA (ds := [_, _]) sz106 rfl rfl rfl) ?_ | refine rg_q (q_load_refA (ds := [_, _]) sz106 rfl rfl rfl rfl) ?_
          first | refine rg_q (q_call en62 (.cons rfl (.cons rfl (.cons rfl .nil))) rfl (rcoarsest_p a p l m hfo)) ?_ | refine rg_q (q_callF en62 (.cons (by first | exact .d _ | exact .rs rfl | exact .ref rfl | exact .nil _ | exact .tref rfl (by repeat (first | exact .nil | refine .cons (.d _ rfl) ?_ | refine .cons (.rs rfl) ?_))) (.cons (by first | exact .d _ | exact .rs rfl | exact .ref rfl | exact .nil _ | exact .tref rfl (by repeat (first | exact .nil | refine .cons (.d _ rfl) ?_ | refine .cons (.rs rfl) ?_))) (.cons (by first | exact .d _ | exact .rs rfl | exact .ref rfl | exact .nil _ | exact .tref rfl (by repeat (first | exact .nil | refine .cons (.d _ rfl) ?_ | refine .cons (.rs rfl) ?_))) .nil))) rfl (rcoarsest_p a p l m hfo) (by first | exact .v _ | exact D.Flat.tupF (by repeat first | exact trivial | refine ⟨.v _, ?_⟩) | exact D.Flat.aggF (by repeat first | exact trivial | refine ⟨.v _, ?_⟩))) ?_
          refine rg_q (q_move (x := .d (.tup _)) rfl) ?_
          refine rg_q (q_extract rfl rfl) ?_
          refine rg_q (q_extract rfl rfl) ?_
          refine rg_q (q_assign (x := .d (.v _)) rfl) ?_
          refine rg_q (q_assign (x := .d (.v _)) rfl) ?_
          refine rg_nil ?_
          refine aops_nil ?_
          change Awp _ _ _ _ _
          refine awp_seq ?_
          refine awp_region 9 mixed (by kernel_rfl) ?_
          refine rg_q (q_move (x := .d (.v _)) rfl) ?_
          refine rg_q (q_move (x := .d (.v _)) rfl) ?_
          refine rg_q (q_eql rfl rfl) ?_
          refine rg_q (q_move (x := .d (.v _)) rfl) ?_
          refine rg_g rfl rfl (fun hG => (q_move (x := .d (.v _)) rfl)) ?_
          refine rg_g rfl rfl (fun hG => (q_move (x := .d (.v _)) rfl)) ?_
          refine rg_g rfl rfl (fun hG => (q_eql rfl rfl)) ?_
          first | refine rg_pick rfl rfl rfl rfl rfl rfl ?_ | refine rg_q (q_pick rfl rfl rfl) ?_
          refine rg_q (q_assign (x := .d (.v _)) rfl) ?_
          refine rg_nil ?_
          refine aops_nil ?_
          change Awp _ _ _ _ _
          refine awp_ret ?_
          refine ⟨_, (.cons (.tmp (by first | exact .d _ | exact .rs rfl | exact .ref rfl | exact .tref rfl (.cons (.d _ rfl) (.cons (.rs rfl) .nil)))) .nil), ?_⟩
          rw [hz]; simp [retD]
        ·
          (try simp only [decide_eq_true_eq, decide_eq_false_iff_not, Bool.and_eq_true, Bool.or_eq_true, Bool.and_eq_false_iff, Bool.or_eq_false_iff, Bool.not_eq_true', Bool.not_eq_false', Bool.not_true, Bool.not_false, bif_and, bif_or, Bool.not_not, ne_eq, Decidable.not_not, not_true_eq_false, not_false_eq_true, Int.not_le, Int.not_lt] at hc10)
          have hz : crsR a p l m = (0, plcE a p) := by unfold crsR; rw [he, if_pos hc10]
          refine awp_skip ?_
          change Awp _ _ _ _ _
          refine awp_seq ?_
          refine awp_region 9 mixed (by kernel_rfl) ?_
          refine rg_q (q_move (x := .d (.v _)) rfl) ?_
          refine rg_q (q_move (x := .d (.v _)) rfl) ?_
          refine rg_q (q_eql rfl rfl) ?_
          refine rg_q (q_move (x := .d (.v _)) rfl) ?_
          refine rg_g rfl rfl (fun hG => (q_move (x := .d (.v _)) rfl)) ?_
          refine rg_g rfl rfl (fun hG => (q_move (x := .d (.v _)) rfl)) ?_
          refine rg_g rfl rfl (fun hG => (q_eql rfl rfl)) ?_
          first | refine rg_pick rfl rfl rfl rfl rfl rfl ?_ | refine rg_q (q_pick rfl rfl rfl) ?_
          refine rg_q (q_assign (x := .d (.v _)) rfl) ?_
          refine rg_nil ?_
          refine aops_nil ?_
          change Awp _ _ _ _ _
          refine awp_ret ?_
          refine ⟨_, (.cons (.tmp (by first | exact .d _ | exact .rs rfl | exact .ref rfl | exact .tref rfl (.cons (.d _ rfl) (.cons (.rs rfl) .nil)))) .nil), ?_⟩
          rw [hz]; simp [retD]
      ·
        (try simp only [decide_eq_true_eq, decide_eq_false_iff_not, Bool.and_eq_true, Bool.or_eq_true, Bool.and_eq_false_iff, Bool.or_eq_false_iff, Bool.not_eq_true', Bool.not_eq_false', Bool.not_true, Bool.not_false, bif_and, bif_or, Bool.not_not, ne_eq, Decidable.not_not, not_true_eq_false, not_false_eq_true, Int.not_le, Int.not_lt] at hc7)
        have he : focE a p = (ckLar a).2 := by unfold focE; rw [if_pos hc7]
        refine awp_skip ?_
        change Awp _ _ _ _ _
        refine awp_seq ?_
        refine awp_region 1 mixed (by kernel_rfl) ?_
        refine rg_q (q_assign (x := .d (.v _)) rfl) ?_
        refine rg_nil ?_
        refine aops_nil ?_
        change Awp _ _ _ _ _
        refine awp_seq ?_
        refine awp_seq ?_
        refine awp_region 2 mixed (by kernel_rfl) ?_
        refine rg_q (q_move (x := .d (.v _)) rfl) ?_
        refine rg_q (q_eql rfl rfl) ?_
        refine rg_nil ?_
        refine aops_nil ?_
        change Awp _ _ _ _ _
        refine awp_cond rfl (fun hc10 => ?_) (fun hc10 => ?_)
        ·
          exfalso; (try simp only [decide_eq_true_eq, decide_eq_false_iff_not, Bool.and_eq_true, Bool.or_eq_true, Bool.and_eq_false_iff, Bool.or_eq_false_iff, Bool.not_eq_true', Bool.not_eq_false', Bool.not_true, Bool.not_false, bif_and, bif_or, Bool.not_not, ne_eq, Decidable.not_not, not_true_eq_false, not_false_eq_true, Int.not_le, Int.not_lt] at hc10); first | omega | simp_all
        ·
          (try simp only [decide_eq_true_eq, decide_eq_false_iff_not, Bool.and_eq_true, Bool.or_eq_true, Bool.and_eq_false_iff, Bool.or_eq_false_iff, Bool.not_eq_true', Bool.not_eq_false', Bool.not_true, Bool.not_false, bif_and, bif_or, Bool.not_not, ne_eq, Decidable.not_not, not_true_eq_false, not_false_eq_true, Int.not_le, Int.not_lt] at hc10)
          have hz : crsR a p l m = (0, (ckLar a).2) := by unfold crsR; rw [he, if_pos hc7]
          refine awp_skip ?_
          change Awp _ _ _ _ _
          refine awp_seq ?_
          refine awp_region 9 mixed (by kernel_rfl) ?_
          refine rg_q (q_move (x := .d (.v _)) rfl) ?_
          refine rg_q (q_move (x := .d (.v _)) rfl) ?_
          refine rg_q (q_eql rfl rfl) ?_
          refine rg_q (q_move (x := .d (.v _)) rfl) ?_
          refine rg_g rfl rfl (fun hG => (q_move (x := .d (.v _)) rfl)) ?_
          refine rg_g rfl rfl (fun hG => (q_move (x := .d (.v _)) rfl)) ?_
          refine rg_g rfl rfl (fun hG => (q_eql rfl rfl)) ?_
          first | refine rg_pick rfl rfl rfl rfl rfl rfl ?_ | refine rg_q (q_pick rfl rfl rfl) ?_
          refine rg_q (q_assign (x := .d (.v _)) rfl) ?_
          refine rg_nil ?_
          refine aops_nil ?_
          change Awp _ _ _ _ _
          refine awp_ret ?_
          refine ⟨_, (.cons (.tmp (by first | exact .d _ | exact .rs rfl | exact .ref rfl | exact .tref rfl (.cons (.d _ rfl) (.cons (.rs rfl) .nil)))) .nil), ?_⟩
          rw [hz]; simp [retD]
end Go.Proofs.YtgeieocphgnipaaGreatDoor.Am.M
