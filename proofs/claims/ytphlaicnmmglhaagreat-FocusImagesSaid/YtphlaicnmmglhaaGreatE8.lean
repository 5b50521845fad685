/- Contracts over the abstract machine: package focus: the value of a cell. Conditions: none. -/
import Derived.Test.YtphlaicnmmglhaaGreatE7
set_option linter.unusedVariables false
set_option linter.unusedSimpArgs false
-- mini
namespace Go.Proofs.YtphlaicnmmglhaaGreat.Am.M
open Go

def hasI (l : List Int) (n : Int) : Bool := l.any fun x => decide (n = x)
theorem reim_in {t : Tsk} (h : TskOk t) (y : Int × Int) (k : Nat) : (-4094 ≤ reI (smpS t y) k ∧ reI (smpS t y) k ≤ 4094) ∧ (-4094 ≤ imI (smpS t y) k ∧ imI (smpS t y) k ≤ 4094) := sq_bnd (vI_in (chK_wh h.wh _)) k
theorem anL_at {S : List Int} {k : Nat} (hk : k < 61) : (anL S)[k]? = some (cx (reI S k) (imI S k)) := by unfold anL; rw [List.getElem?_map, List.getElem?_range hk]; rfl
def vlF (t : Tsk) (c : Int) (dd : List Int) (s : (Int × Int) × Int) (y : Int × Int) : (Int × Int) × Int :=
  if (hasI dd y.1 || hasI dd y.2) = true then s
  else if inR 0 (smpI t.ar (spI t.g c) y) 60 = true then ((s.1.1 + reI (smpS t y) (smpI t.ar (spI t.g c) y).toNat, s.1.2 + imI (smpS t y) (smpI t.ar (spI t.g c) y).toNat), s.2 + 1)
  else s
def vlA (t : Tsk) (c : Int) (dd : List Int) (l : List (Int × Int)) : (Int × Int) × Int := l.foldl (vlF t c dd) ((0, 0), 0)
theorem vlA_snoc {t : Tsk} {c : Int} {dd : List Int} {l : List (Int × Int)} {k : Nat} {y : Int × Int} (h : l[k]? = some y) : vlA t c dd (l.take (k + 1)) = vlF t c dd (vlA t c dd (l.take k)) y := by
  obtain ⟨hlt, hx⟩ := List.getElem?_eq_some_iff.1 h
  unfold vlA
  rw [List.take_succ_eq_append_getElem hlt, hx, List.foldl_append]; rfl
theorem vlA_in {t : Tsk} (h : TskOk t) {c : Int} {dd : List Int} {l : List (Int × Int)} : ∀ k : Nat, k ≤ l.length → (-(4094 * (k : Int)) ≤ (vlA t c dd (l.take k)).1.1 ∧ (vlA t c dd (l.take k)).1.1 ≤ 4094 * (k : Int)) ∧ (-(4094 * (k : Int)) ≤ (vlA t c dd (l.take k)).1.2 ∧ (vlA t c dd (l.take k)).1.2 ≤ 4094 * (k : Int)) ∧ 0 ≤ (vlA t c dd (l.take k)).2 ∧ (vlA t c dd (l.take k)).2 ≤ (k : Int)
  | 0, _ => by
    have e : vlA t c dd (l.take 0) = ((0, 0), 0) := rfl
    rw [e]
    simp only; omega
  | k + 1, hk => by
    have ih := vlA_in h (c := c) (dd := dd) (l := l) k (by omega)
    have hy : l[k]? = some l[k] := List.getElem?_eq_getElem (by omega)
    have hb := reim_in h l[k] (smpI t.ar (spI t.g c) l[k]).toNat
    rw [vlA_snoc hy]
    unfold vlF
    split
    · omega
    · split
      · simp only; omega
      · omega
set_option maxRecDepth 100000 in
theorem value_p (t : Tsk) (c : Int) (fs dd : List Int) (h : TskOk t) (hc : clE t.g c = 0) (hf : ∀ x ∈ fs, 0 ≤ x ∧ x < t.ne) (hfl : fs.length ≤ 100) : PC Tryz.prog 95 [.pt (tkC t) 0, .v (.int .i64 (c)), .sl 1 (fs.map iC), .sl 1 (dd.map iC)] (.tup [.agg [.v (.int .i64 ((vlA t c dd (pqL fs t.ne.toNat)).1.1)), .v (.int .i64 ((vlA t c dd (pqL fs t.ne.toNat)).1.2))], .v (.int .i64 ((vlA t c dd (pqL fs t.ne.toNat)).2))]) := by
  have hn1 := h.n1
  have hn2 := h.n2
  have hlen : (pqL fs t.ne.toNat).length ≤ 1600 := by
    rw [pqL_len]
    have := Nat.mul_le_mul hfl (show t.ne.toNat ≤ 16 by omega)
    omega
  refine pc_of_awpN Tryz.func95 rfl Tryz.ntmps95 (rs := [.cell 8 160, .tmp 9]) Tryz.results95 (by simp) fun w0 hmine hrnd hpn => ?_
  refine awp_seq ?_
  refine awp_region 3 mixed (by kernel_rfl) ?_
  refine rg_q (q_box rfl (by exact .inl rfl)) ?_
  refine rg_q (q_box rfl (by exact .inl rfl)) ?_
  refine rg_q (q_box rfl (by exact .inl rfl)) ?_
  refine rg_nil ?_
  refine aops_alloc zr160 rfl rfl rfl ?_
  refine aops_q rfl (q_assign (x := .d (.v _)) rfl) ?_
  refine aops_nil ?_
  change Awp _ _ _ _ _
  refine awp_seq ?_
  refine awp_region 0 mixed (by kernel_rfl) ?_
  refine rg_nil ?_
  refine aops_alloc zr160 rfl rfl rfl ?_
  refine aops_nil ?_
  change Awp _ _ _ _ _
  refine awp_seq ?_
  refine awp_region 0 mixed (by kernel_rfl) ?_
  refine rg_nil ?_
  refine aops_alloc zr3 rfl rfl rfl ?_
  refine aops_store sz3 rfl rfl (by exact .inl rfl) rfl rfl (by decide) rfl ?_
  refine aops_nil ?_
  change Awp _ _ _ _ _
  refine awp_seq ?_
  refine awp_seq ?_
  refine awp_region 3 mixed (by kernel_rfl) ?_
  refine rg_q (q_load sz156 rfl rfl) (rg_q (q_move (x := .d (.sl _ _)) rfl) ?_)
  refine rg_q (q_call en102 (.cons rfl (.cons rfl .nil)) rfl (fpairs_p t fs)) ?_
  refine rg_nil (aops_nil ?_)
  change Awp _ _ _ _ _
  refine awp_block ?_
  refine awp_rangeFC (α := Int × Int) (β := Nat) (n := 51) (enc := (encQ t)) (items := pqL fs t.ne.toNat) 1000 [(4, .d (.pt [.pt (tkC t) 0] 0)), (5, .d (.pt [.v (.int .i64 (c))] 0)), (7, .d (.pt [.sl 1 (dd.map iC)] 0)), (8, .ref 8 0), (10, .ref 10 0), (11, .ref 11 0), (18, .d (.fn (.func 171) [.pt [.sl 1 (fs.map iC)] 0, .pt [.pt (tkC t) 0] 0]))] (fun x => [(8, .box [.v (.int .i64 (0)), .v (.int .i64 (0))]), (10, .box [.v (.int .i64 ((vlA t c dd ((pqL fs t.ne.toNat).take x)).1.1)), .v (.int .i64 ((vlA t c dd ((pqL fs t.ne.toNat).take x)).1.2))]), (11, .box [.v (.int .i64 ((vlA t c dd ((pqL fs t.ne.toNat).take x)).2))])]) (fun k x => x = k) (fun e x => False) 0 hrnd ?_ (.inr ⟨rfl, rfl⟩) en171 (fpairs_i t fs h hf (by omega)) rfl (fun _ => rfl) rfl (fun x => fsl_mem (fsl_cons (fst_box (by repeat (first | exact trivial | refine ⟨.v _, ?_⟩))) (fsl_cons (fst_box (by repeat (first | exact trivial | refine ⟨.v _, ?_⟩))) (fsl_cons (fst_box (by repeat (first | exact trivial | refine ⟨.v _, ?_⟩))) fsl_nil)))) (fun _ => rfl) rfl (fun h => by cases h) ?_ ?_ ?_
  · exact le_cst (fun k => k) _ _ rfl ⟨rfl, rfl, rfl, rfl, rfl, rfl, rfl, trivial⟩ ⟨rfl, rfl, rfl, trivial⟩ rfl (fun k b h => by rw [hpn k] at h; cases h)
  ·
    intro w1 hw1 k x y hI hy
    subst hI
    have hmy := pqL_in (List.mem_of_getElem? hy)
    obtain ⟨hy0, hy3, hy4⟩ := hmy
    obtain ⟨hy1, hy2⟩ := hf _ hy0
    have hxl : x < (pqL fs t.ne.toNat).length := (List.getElem?_eq_some_iff.1 hy).1
    obtain ⟨⟨b1, b2⟩, ⟨b3, b4⟩, b5, b6⟩ := vlA_in h (c := c) (dd := dd) (l := pqL fs t.ne.toNat) x (by omega)
    obtain ⟨hre, him⟩ := reim_in h y (smpI t.ar (spI t.g c) y).toNat
    have hst := vlA_snoc (t := t) (c := c) (dd := dd) hy
    unfold vlF at hst
    refine awp_seq ?_
    refine awp_region 0 mixed (by kernel_rfl) ?_
    refine rg_nil ?_
    refine aops_allocD zr63 rfl sz63 rfl rfl (by exact .inr ⟨_, rfl⟩) rfl rfl ?_
    refine aops_nil ?_
    change Awp _ _ _ _ _
    refine awp_region 1 mixed (by kernel_rfl) ?_
    refine rg_q (q_assign (x := .d (.pt _ _)) rfl) ?_
    refine rg_nil (aops_nil ?_)
    refine ⟨rfl, fun w2 hw2 => ?_⟩
    refine awp_block ?_
    refine awp_seq ?_
    refine awp_seq ?_
    refine awp_region 10 mixed (by kernel_rfl) ?_
    refine rg_q (q_load sz77 rfl rfl) ?_
    refine rg_q (q_indexAddr_ar ar63 rfl rfl (by omega) (by omega)) ?_
    refine rg_q (q_load sz3 rfl rfl) ?_
    refine rg_q (q_call en170 (.cons rfl (.cons rfl .nil)) rfl (contains5_p dd y.1)) ?_
    refine rg_q (q_move (x := .d (.v _)) rfl) ?_
    refine rg_g rfl rfl (fun hG => (q_load sz77 rfl rfl)) ?_
    refine rg_g rfl rfl (fun hG => (q_indexAddr_ar ar63 rfl rfl (by (have hg0 := T.bool_inj (a := _) hG.1; (try simp only [nb, ne_eq] at hg0); omega)) (by (have hg0 := T.bool_inj (a := _) hG.1; (try simp only [nb, ne_eq] at hg0); omega)))) ?_
    refine rg_g rfl rfl (fun hG => (q_load sz3 rfl rfl)) ?_
    refine rg_g rfl rfl (fun hG => (q_call en170 (.cons rfl (.cons rfl .nil)) rfl (contains5_p dd y.2))) ?_
    refine rg_pick rfl rfl rfl rfl rfl rfl ?_
    refine rg_nil (aops_nil ?_)
    change Awp _ _ _ _ _
    refine awp_cond rfl (fun hc6 => ?_) (fun hc6 => ?_)
    ·
      (try simp only [nb, ne_eq] at hc6)
      have hd : (hasI dd y.1 || hasI dd y.2) = true := by unfold hasI; simpa using hc6
      rw [if_pos hd] at hst
      refine awp_exit ?_
      refine .inl ⟨rfl, x + 1, rfl, ?_⟩
      exact le_round [] _ hw2 rfl ⟨(by rfl), (by (show Site.box _ = Site.box _; (rw [hst]; done))), (by (show Site.box _ = Site.box _; (rw [hst]; done))), trivial⟩ rfl
    ·
      (try simp only [nb, ne_eq] at hc6)
      have hd : ¬ (hasI dd y.1 || hasI dd y.2) = true := by
        intro q
        rw [Bool.or_eq_true] at q
        unfold hasI at q
        rcases q with q | q
        · rw [hc6.1] at q; cases q
        · rw [hc6.2] at q; cases q
      rw [if_neg hd] at hst
      refine awp_skip ?_
      change Awp _ _ _ _ _
      refine awp_seq ?_
      refine awp_region 9 mixed (by kernel_rfl) ?_
      refine rg_q (q_load sz156 rfl rfl) (rg_q (q_load sz3 rfl rfl) ?_)
      refine rg_q (q_loadA (ds := [_, _]) sz63 rfl rfl rfl) ?_
      refine rg_q (q_call en109 (.cons rfl (.cons rfl (.cons rfl .nil))) rfl (number_p t c y h hc ⟨⟨hy1, hy2⟩, hy3, by omega⟩)) ?_
      refine rg_q (q_move (x := .d (.tup _)) rfl) (rg_q (q_extract rfl rfl) (rg_q (q_extract rfl rfl) (rg_q (q_assign (x := .d (.v _)) rfl) (rg_q (q_assign (x := .d (.v _)) rfl) ?_))))
      refine rg_nil (aops_nil ?_)
      change Awp _ _ _ _ _
      refine awp_seq ?_
      refine awp_region 1 mixed (by kernel_rfl) ?_
      refine rg_q (q_move (x := .d (.v _)) rfl) ?_
      refine rg_nil (aops_nil ?_)
      change Awp _ _ _ _ _
      refine awp_cond rfl (fun hc8 => ?_) (fun hc8 => ?_)
      ·
        (try simp only [nb, ne_eq] at hc8)
        rw [if_pos hc8] at hst
        have hin := inR_iff.1 hc8
        refine awp_regionL 10 1 [8, 9] mixed (by kernel_rfl) ?_
        refine rg_q (q_load_refA (ds := [_, _]) sz160 rfl rfl rfl rfl) ?_
        refine rg_q (q_move (x := .d (.pt _ _)) rfl) (rg_q (q_move (x := .d (.v _)) rfl) (rg_q (q_nilCheck rfl) ?_))
        refine rg_q (q_indexAddr_ar ar273 rfl rfl (by omega) (by omega)) ?_
        refine rg_q (q_load sz178 rfl (by rw [Nat.zero_add, Nat.mul_one]; exact anL_at (S := smpS t y) (by omega))) ?_
        refine rg_q (q_call en104 (.cons rfl .nil) rfl (fsample_p _ _ hre him)) ?_
        refine rg_q (q_call en132 (.cons rfl (.cons rfl .nil)) rfl (fplus_p _ _ _ _ (by omega) (by omega) (by omega) (by omega))) ?_
        refine rg_q (q_load_ref sz3 rfl rfl rfl) ?_
        refine rg_q (q_add rfl rfl (In64.mk (by omega) (by omega))) ?_
        refine rg_nil ?_
        refine late_set (c_store sz160 rfl rfl (by exact .inr ⟨_, rfl⟩) rfl rfl (by simp) rfl) ?_ ?_
        · refine fl_cons rfl rfl rfl (c_q (q_load_ref sz3 rfl rfl rfl)) ?_
          first | refine fl_cons rfl rfl rfl (c_q (q_add rfl rfl (In64.mk (by omega) (by omega)))) ?_
          exact fl_nil
        refine late_nil ?_
        refine aops_store sz3 rfl rfl (by exact .inl rfl) rfl rfl (by simp; done) rfl ?_
        refine aops_nil ?_
        refine .inl ⟨rfl, x + 1, rfl, ?_⟩
        exact le_round [] _ hw2 rfl ⟨(by rfl), (by (show Site.box _ = Site.box _; (rw [hst]; rfl))), (by (show Site.box _ = Site.box _; (rw [hst]; rfl))), trivial⟩ rfl
      ·
        (try simp only [nb, ne_eq] at hc8)
        rw [if_neg (by rw [hc8]; decide)] at hst
        refine awp_skip ?_
        refine .inl ⟨rfl, x + 1, rfl, ?_⟩
        exact le_round [] _ hw2 rfl ⟨(by rfl), (by (show Site.box _ = Site.box _; (rw [hst]; done))), (by (show Site.box _ = Site.box _; (rw [hst]; done))), trivial⟩ rfl
  ·
    intro x hI
    have hI2 : x = (pqL fs t.ne.toNat).length := hI
    subst hI2
    rw [List.take_length] at *
    change Awp _ _ _ _ _
    refine awp_seq ?_
    refine awp_regionM 4 [none, none, some 8, none] mixed (by kernel_rfl) ?_
    refine rgm_q rfl (q_load_refA (ds := [_, _]) sz160 rfl rfl rfl rfl) ?_
    refine rgm_q rfl (q_load_ref sz3 rfl rfl rfl) ?_
    refine rgm_m (k := 8) rfl rfl (by rfl) (m_store sz160 rfl rfl (by exact .inr ⟨_, rfl⟩) rfl rfl (by decide) rfl) ?_
    refine rgm_q rfl (q_assign (x := .d (.v _)) rfl) ?_
    refine rgm_nil (aops_nil ?_)
    change Awp _ _ _ _ _
    refine awp_ret ?_
    refine ⟨_, (.cons (.cellA rfl rfl sz160 rfl) (.cons (.tmp (by exact .d _)) .nil)), ?_⟩
    rfl
  ·
    exact fun e x h => h.elim

def evL (t : Tsk) : List (Int × Int) := pqL (allL t.ne.toNat) t.ne.toNat
def vlI (t : Tsk) (c : Int) : (Int × Int) × Int := vlA t c [] (evL t)
theorem allL_ok {t : Tsk} (h : TskOk t) : (∀ x ∈ allL t.ne.toNat, 0 ≤ x ∧ x < t.ne) ∧ (allL t.ne.toNat).length ≤ 16 := by
  have h1 := h.n1
  have h2 := h.n2
  refine ⟨fun x hx => ?_, by rw [allL_len]; omega⟩
  have := allL_in hx
  omega
set_option maxRecDepth 100000 in
theorem valueAt_p (t : Tsk) (c : Int) (h : TskOk t) (hc : clE t.g c = 0) : PC Tryz.prog 23 [.agg (tskC t), .v (.int .i64 (c))] (.tup [cz (vlI t c).1.1 (vlI t c).1.2, .v (.int .i64 ((vlI t c).2)), .v (.int .i64 (0))]) := by
 have hn1 := h.n1
 have hn2 := h.n2
 obtain ⟨ha1, ha2⟩ := allL_ok h
 refine pc_of_awpN Tryz.func23 rfl Tryz.ntmps23 (rs := [.tmp 4, .tmp 5, .tmp 6]) Tryz.results23 (by simp) fun w0 hmine hrnd hpn => ?_
 refine awp_seq ?_
 refine awp_region 4 mixed (by kernel_rfl) ?_
 refine rg_q (q_box rfl (by exact .inr ⟨_, rfl⟩)) ?_
 refine rg_q (q_assign (x := .d (.v _)) rfl) (rg_q (q_assign (x := .d (.v _)) rfl) (rg_q (q_assign (x := .d (.v _)) rfl) ?_))
 refine rg_nil (aops_nil ?_)
 change Awp _ _ _ _ _
 refine awp_seq ?_
 refine awp_region 8 mixed (by kernel_rfl) ?_
 refine rg_q (q_loadA sz37 rfl rfl rfl) ?_
 refine rg_q (q_move (x := .d (.v _)) rfl) ?_
 refine rg_q (q_call en94 (.cons rfl (.cons rfl .nil)) rfl ((by have h := openCell_p t c h; rw [hc] at h; exact h))) ?_
 refine rg_q (q_move (x := .d (.tup _)) rfl) (rg_q (q_extract rfl rfl) (rg_q (q_extract rfl rfl) (rg_q (q_assign (x := .d (.pt _ _)) rfl) (rg_q (q_assign (x := .d (.v _)) rfl) ?_))))
 refine rg_nil (aops_nil ?_)
 change Awp _ _ _ _ _
 refine awp_seq ?_
 refine awp_seq ?_
 refine awp_region 2 mixed (by kernel_rfl) ?_
 refine rg_q (q_move (x := .d (.v _)) rfl) (rg_q (q_neq rfl rfl) ?_)
 refine rg_nil (aops_nil ?_)
 change Awp _ _ _ _ _
 refine awp_cond rfl (fun hc2 => ?_) (fun hc2 => ?_)
 ·
  simp at hc2
 ·
  (try simp only [nb, ne_eq] at hc2)
  refine awp_skip ?_
  change Awp _ _ _ _ _
  refine awp_seq ?_
  refine awp_region 8 mixed (by kernel_rfl) ?_
  refine rg_q (q_move (x := .d (.pt _ _)) rfl) (rg_q (q_move (x := .d (.v _)) rfl) (rg_q (q_move (x := .d (.pt _ _)) rfl) ?_))
  refine rg_q (q_call en96 (.cons rfl .nil) rfl (all_p t hn1 hn2)) ?_
  refine rg_q (q_call en95 (.cons rfl (.cons rfl (.cons rfl (.cons rfl .nil)))) rfl (value_p t c (allL t.ne.toNat) [] h hc ha1 (by omega))) ?_
  refine rg_q (q_move (x := .d (.tup _)) rfl) (rg_q (q_extract rfl rfl) (rg_q (q_extract rfl rfl) ?_))
  refine rg_nil ?_
  refine aops_allocD zr160 rfl sz160 rfl rfl (by exact .inr ⟨_, rfl⟩) rfl rfl ?_
  refine aops_q rfl (q_assign (x := .d (.v _)) rfl) ?_
  refine aops_nil ?_
  change Awp _ _ _ _ _
  refine awp_seq ?_
  refine awp_region 6 mixed (by kernel_rfl) ?_
  refine rg_q (q_loadA (ds := [_, _]) sz160 rfl rfl rfl) ?_
  refine rg_q (q_call en97 (.cons rfl .nil) rfl (fnumber_p _ _)) ?_
  refine rg_q (q_move (x := .d (.v _)) rfl) (rg_q (q_assign (x := .d (.v _)) rfl) (rg_q (q_assign (x := .d (.v _)) rfl) (rg_q (q_assign (x := .d (.v _)) rfl) ?_)))
  refine rg_nil (aops_nil ?_)
  change Awp _ _ _ _ _
  refine awp_ret ?_
  refine ⟨_, (.cons (.tmp (by exact .d _)) (.cons (.tmp (by exact .d _)) (.cons (.tmp (by exact .d _)) .nil))), ?_⟩
  rfl
end Go.Proofs.YtphlaicnmmglhaaGreat.Am.M
