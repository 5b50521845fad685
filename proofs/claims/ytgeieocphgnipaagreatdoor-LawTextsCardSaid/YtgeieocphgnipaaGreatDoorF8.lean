/- Contracts over the abstract machine: package law: focused, FocusLaw. Conditions: none. -/
import Derived.Test.YtgeieocphgnipaaGreatDoorF7
set_option linter.unusedVariables false
set_option linter.unusedSimpArgs false
-- mini
namespace Go.Proofs.YtgeieocphgnipaaGreatDoor.Am.M
open Go
set_option maxRecDepth 100000 in
theorem focused1_p (a : Lar) (ts : List Int) (m : Int) (i : Nat) (t : Int) (ht : ts[i]? = some t) (h1 : 0 ≤ t) (h2 : t ≤ 40000000000) (h3 : 0 ≤ m) (h4 : m ≤ 40000000000) (c1 : 1 ≤ a.ck) (c2 : a.ck ≤ 1000000) : PC Tryz.prog 131 [.v (.int .i64 ((i : Int))), .pt [.v (.int .i64 (m))] 0, .pt [.sl 1 (ts.map iC)] 0, .pt (larC a) 0] (.v (.int .i64 (rndL (m - t) a.ck))) := by
  have hlt := (List.getElem?_eq_some_iff.1 ht).1
  refine pc_of_awp Tryz.func131 rfl Tryz.ntmps131 (rs := [.tmp 5]) Tryz.results131 (by simp) fun w0 => ?_
  refine awp_seq ?_
  refine awp_region 1 mixed (by kernel_rfl) ?_
  refine rg_q (q_assign (x := .d (.v _)) rfl) ?_
  refine rg_nil ?_
  refine aops_nil ?_
  change Awp _ _ _ _ _
  refine awp_seq ?_
  refine awp_region 10 mixed (by kernel_rfl) ?_
  refine rg_q (q_load sz3 rfl rfl) ?_
  refine rg_q (q_load sz31 rfl rfl) ?_
  refine rg_q (q_move (x := .d (.v _)) rfl) ?_
  refine rg_q (q_indexAddr sl31 rfl rfl (by omega) (map_at (by omega) ht)) ?_
  refine rg_q (q_load sz3 rfl rfl) ?_
  refine rg_q (q_sub rfl rfl (In64.mk (by omega) (by omega))) ?_
  refine rg_q (q_fieldAddr fld26_2 rfl) ?_
  refine rg_q (q_load sz3 rfl rfl) ?_
  refine rg_q (q_call en109 (.cons rfl (.cons rfl .nil)) rfl (lrounded_p _ _ (by omega) (by omega) (by omega) (by omega))) ?_
  refine rg_q (q_assign (x := .d (.v _)) rfl) ?_
  refine rg_nil ?_
  refine aops_nil ?_
  change Awp _ _ _ _ _
  refine awp_ret ?_
  refine ⟨_, (.cons (.tmp (by exact .d _)) .nil), ?_⟩
  rfl

def fcT (a : Lar) (p : Int × Int) : List Int := a.el.map fun s => rtI a.md s p
def fcI (a : Lar) (p : Int × Int) (i : Int) : Int := rndL (maxF (fcT a p) - (fcT a p).getD i.toNat 0) a.ck
theorem maxF_in {l : List Int} {b : Int} (h : ∀ x ∈ l, 0 ≤ x ∧ x ≤ b) (hb : 0 ≤ b) : 0 ≤ maxF l ∧ maxF l ≤ b := by
  have key : ∀ (xs : List Int) (x : Int), 0 ≤ x → x ≤ b → (∀ y ∈ xs, 0 ≤ y ∧ y ≤ b) → 0 ≤ xs.foldl max x ∧ xs.foldl max x ≤ b := by
    intro xs
    induction xs with
    | nil => intro x h1 h2 _; exact ⟨h1, h2⟩
    | cons y ys ih =>
      intro x h1 h2 h3
      have hy := h3 y (by simp)
      exact ih (max x y) (by omega) (by omega) (fun z hz => h3 z (by simp [hz]))
  cases l with
  | nil => exact ⟨Int.le_refl _, hb⟩
  | cons x xs =>
    have hx := h x (by simp)
    exact key xs x hx.1 hx.2 (fun y hy => h y (by simp [hy]))
theorem fcT_in {a : Lar} {p : Int × Int} : ∀ x ∈ fcT a p, 0 ≤ x ∧ x ≤ 40000000000 := by
  intro x hx
  obtain ⟨s, _, rfl⟩ := List.mem_map.1 hx
  have := rt_in a.md s p
  omega
set_option maxRecDepth 100000 in
theorem focused_p (a : Lar) (p : Int × Int) (c1 : 1 ≤ a.ck) (c2 : a.ck ≤ 1000000) (n1 : 1 ≤ a.el.length) (n2 : a.el.length ≤ 16) (hE : ∀ s ∈ a.el, (ltI a.md s p).2 = 0) (hT : ∀ i : Nat, i < a.el.length → fcI a p (i : Int) ≤ 1000000) : PC Tryz.prog 82 [.agg (larC a), .agg (shC p)] (.tup [.agg (dlyC ⟨a.ck, bltL (fcI a p) a.el.length⟩), .v (.int .i64 (0))]) := by
  obtain ⟨m1, m2⟩ := maxF_in (fcT_in (a := a) (p := p)) (by omega)
  have htl : (fcT a p).length = a.el.length := by unfold fcT; rw [List.length_map]
  refine pc_of_awpN Tryz.func82 rfl Tryz.ntmps82 (rs := [.cell 4 33, .tmp 5]) Tryz.results82 (by simp) fun w0 hmine hrnd hpn => ?_
  refine awp_seq ?_
  refine awp_region 2 mixed (by kernel_rfl) ?_
  refine rg_q (q_box rfl (by exact .inr ⟨_, rfl⟩)) ?_
  refine rg_q (q_box rfl (by exact .inr ⟨_, rfl⟩)) ?_
  refine rg_nil ?_
  refine aops_alloc zr33 rfl rfl rfl ?_
  refine aops_q rfl (q_assign (x := .d (.v _)) rfl) ?_
  refine aops_nil ?_
  change Awp _ _ _ _ _
  refine awp_seq ?_
  refine awp_region 0 mixed (by kernel_rfl) ?_
  refine rg_nil ?_
  refine aops_alloc zr31 rfl rfl rfl ?_
  refine aops_nil ?_
  change Awp _ _ _ _ _
  refine awp_seq ?_
  refine awp_seq ?_
  refine Awp.le (le_ownB 6 34 0 3 1 rfl rfl rfl) ?_
  refine awp_region 4 mixed (by kernel_rfl) ?_
  refine rg_q (q_fieldAddr fld26_0 rfl) ?_
  refine rg_q (q_load sz22 rfl rfl) ?_
  refine rg_q (q_len isl22 rfl (by exact len_map _ _)) ?_
  refine rg_q (q_move (x := .d (.v _)) rfl) ?_
  refine rg_nil ?_
  refine aops_nil ?_
  change Awp _ _ _ _ _
  refine awp_len (t := 13) rfl (fun hl13 => ?_)
  (try simp only [List.length_map] at hl13)
  refine awp_block ?_
  refine awp_loopH [5, 8, 9, 10, 15, 16, 17, 18, 19, 20, 21, 22, 23, 24, 25, 26, 27, 28, 29, 30, 31, 32, 33, 34, 35] [6, 34] (α := Nat) (fun k => [(15, T.i (k : Int))]) (fun k => [(6, .tbox [.rs 34]), (34, .row 3 1 ((a.el.take k).map fun s => iC (rtI a.md s p)))]) (fun k => k ≤ a.el.length) (fun k => a.el.length - k) 0 (Nat.zero_le _) ?_ ?_
  · exact le_head (ms := [6, 34]) (by repeat (exact Out.refl _)) ⟨(by rfl), trivial⟩ ⟨(by rfl), (by rfl), trivial⟩ rfl rfl rfl rfl
  ·
    intro k hk
    refine awp_seq ?_
    refine awp_region 1 mixed (by kernel_rfl) ?_
    refine rg_q (q_lss rfl rfl) ?_
    refine rg_nil ?_
    refine aops_nil ?_
    change Awp _ _ _ _ _
    refine awp_seq ?_
    refine awp_cond rfl (fun hc3 => ?_) (fun hc3 => ?_)
    ·
      (try simp only [decide_eq_true_eq, decide_eq_false_iff_not, Bool.and_eq_true, Bool.or_eq_true, Bool.and_eq_false_iff, Bool.or_eq_false_iff, Bool.not_eq_true', Bool.not_eq_false', Bool.not_true, Bool.not_false, bif_and, bif_or, Bool.not_not, ne_eq, Decidable.not_not, not_true_eq_false, not_false_eq_true, Int.not_le, Int.not_lt] at hc3)
      have hlt : k < a.el.length := by omega
      obtain ⟨x, hx⟩ : ∃ x, a.el[k]? = some x := ⟨_, List.getElem?_eq_getElem hlt⟩
      have he0 := hE x (List.mem_of_getElem? hx)
      have hsk : ((a.el.take (k + 1)).map fun s => iC (rtI a.md s p)) = ((a.el.take k).map fun s => iC (rtI a.md s p)) ++ [iC (rtI a.md x p)] := by
        rw [List.take_succ_eq_append_getElem hlt, List.map_append, (List.getElem?_eq_some_iff.1 hx).2]; rfl
      have hln : (a.el.take k).length ≤ 16 := by rw [List.length_take]; omega
      refine awp_skip ?_
      change Awp _ _ _ _ _
      refine awp_seq ?_
      refine awp_block ?_
      refine awp_seq ?_
      refine awp_region 2 mixed (by kernel_rfl) ?_
      refine rg_q (q_indexAddr sl22 rfl rfl (by omega) (map_at (by omega) hx)) ?_
      refine rg_q (q_loadA (ds := [_, _]) sz28 rfl rfl rfl) ?_
      refine rg_nil ?_
      refine aops_alloc zr28 rfl rfl rfl ?_
      refine aops_store sz28 rfl rfl (by exact .inr ⟨_, rfl⟩) rfl rfl (by decide) rfl ?_
      refine aops_nil ?_
      change Awp _ _ _ _ _
      refine awp_seq ?_
      refine awp_region 10 mixed (by kernel_rfl) ?_
      refine rg_q (q_fieldAddr fld26_1 rfl) ?_
      refine rg_q (q_loadA (ds := [_, _, _, _]) sz24 rfl rfl rfl) ?_
      refine rg_q (q_load_refA (ds := [_, _]) sz28 rfl rfl rfl rfl) ?_
      refine rg_q (q_loadA (ds := [_, _]) sz28 rfl rfl rfl) ?_
      refine rg_q (q_call en130 (.cons rfl (.cons rfl (.cons rfl .nil))) rfl (roundedTime_p a.md x p)) ?_
      refine rg_q (q_move (x := .d (.tup _)) rfl) ?_
      refine rg_q (q_extract rfl rfl) ?_
      refine rg_q (q_extract rfl rfl) ?_
      refine rg_q (q_assign (x := .d (.v _)) rfl) ?_
      refine rg_q (q_assign (x := .d (.v _)) rfl) ?_
      refine rg_nil ?_
      refine aops_nil ?_
      change Awp _ _ _ _ _
      refine awp_seq ?_
      refine awp_seq ?_
      refine awp_region 2 mixed (by kernel_rfl) ?_
      refine rg_q (q_move (x := .d (.v _)) rfl) ?_
      refine rg_q (q_neq rfl rfl) ?_
      refine rg_nil ?_
      refine aops_nil ?_
      change Awp _ _ _ _ _
      refine awp_cond rfl (fun hc6 => ?_) (fun hc6 => ?_)
      ·
        exfalso; (try simp only [decide_eq_true_eq, decide_eq_false_iff_not, Bool.and_eq_true, Bool.or_eq_true, Bool.and_eq_false_iff, Bool.or_eq_false_iff, Bool.not_eq_true', Bool.not_eq_false', Bool.not_true, Bool.not_false, bif_and, bif_or, Bool.not_not, ne_eq, Decidable.not_not, not_true_eq_false, not_false_eq_true, Int.not_le, Int.not_lt] at hc6); omega
      ·
        (try simp only [decide_eq_true_eq, decide_eq_false_iff_not, Bool.and_eq_true, Bool.or_eq_true, Bool.and_eq_false_iff, Bool.or_eq_false_iff, Bool.not_eq_true', Bool.not_eq_false', Bool.not_true, Bool.not_false, bif_and, bif_or, Bool.not_not, ne_eq, Decidable.not_not, not_true_eq_false, not_false_eq_true, Int.not_le, Int.not_lt] at hc6)
        refine awp_skip ?_
        change Awp _ _ _ _ _
        refine awp_region 3 mixed (by kernel_rfl) ?_
        refine rg_q (q_load_tb (x := .rs _) sz31 rfl rfl rfl) ?_
        refine rg_q (q_move (x := .d (.v _)) rfl) ?_
        refine rg_q (q_buildSlice sl31 zr3 rfl rfl (by decide) (.cons rfl (by exact .inl rfl) .nil) ⟨rfl, rfl, trivial⟩ rfl (by decide) rfl) ?_
        refine rg_nil ?_
        refine aops_append sl31 zr3 by3 rfl (by decide) rfl rfl rfl rfl (by (try simp only [List.length_map, List.length_append, List.length_cons, List.length_nil]); omega) (by (try simp only [List.length_map, List.length_append, List.length_cons, List.length_nil]); omega) rfl rfl ?_
        refine aops_storeT (z := .rs _) sz31 rfl rfl rfl rfl (by decide) rfl ?_
        refine aops_nil ?_
        change Awp _ _ _ _ _
        refine awp_region 2 mixed (by kernel_rfl) ?_
        refine rg_q (q_add rfl rfl (In64.mk (by omega) (by omega))) ?_
        refine rg_q (q_move (x := .d (.v _)) rfl) ?_
        refine rg_nil ?_
        refine aops_nil ?_
        refine ⟨k + 1, by omega, by omega, ?_⟩
        exact le_head (ms := [6, 34]) (by repeat (first | exact Out.head rfl rfl | (refine Out.put ?_ rfl) | (refine Out.site ?_ rfl) | (refine Out.killS ?_ rfl))) ⟨(by rfl), trivial⟩ ⟨(by rfl), (by (show Site.row 3 1 (_ ++ [_]) = Site.row 3 1 _; rw [hsk]; rfl)), trivial⟩ rfl rfl rfl rfl
    ·
      (try simp only [decide_eq_true_eq, decide_eq_false_iff_not, Bool.and_eq_true, Bool.or_eq_true, Bool.and_eq_false_iff, Bool.or_eq_false_iff, Bool.not_eq_true', Bool.not_eq_false', Bool.not_true, Bool.not_false, bif_and, bif_or, Bool.not_not, ne_eq, Decidable.not_not, not_true_eq_false, not_false_eq_true, Int.not_le, Int.not_lt] at hc3)
      have hkn : k = a.el.length := by omega
      have hw0 : ((a.el.take k).map fun s => iC (rtI a.md s p)) = (fcT a p).map iC := by unfold fcT; rw [hkn, List.take_length, List.map_map]; rfl
      refine awp_exit ?_
      change Awp _ _ _ _ _
      refine awp_seq ?_
      refine Awp.le (le_freezeTB 6 34 0 (es := (fcT a p).map iC) rfl rfl (by show Site.row _ _ _ = _; rw [hw0]) rfl hmine) ?_
      refine Awp.le (le_boxT 6 [.sl 1 ((fcT a p).map iC)] rfl rfl (by intro j d h; match j, h with | 0, h => cases h; rfl)) ?_
      refine awp_region 2 mixed (by kernel_rfl) ?_
      refine rg_q (q_load_ref sz31 rfl rfl rfl) ?_
      refine rg_q (q_call en106 (.cons rfl .nil) rfl (maxI_p (fcT a p) (by omega))) ?_
      refine rg_nil ?_
      refine aops_alloc zr3 rfl rfl rfl ?_
      refine aops_store sz3 rfl rfl (by exact .inl rfl) rfl rfl (by decide) rfl ?_
      refine aops_nil ?_
      change Awp _ _ _ _ _
      refine awp_seq ?_
      refine Awp.le (le_freeze 11 11 0 (cs := [.v (.int .i64 (maxF (fcT a p)))]) rfl rfl rfl rfl hmine) ?_
      refine Awp.le (le_freeze 6 6 0 (cs := [.sl 1 ((fcT a p).map iC)]) rfl rfl rfl rfl hmine) ?_
      refine awp_region 8 mixed (by kernel_rfl) ?_
      refine rg_q (q_fieldAddr fld26_2 rfl) ?_
      refine rg_q (q_load sz3 rfl rfl) ?_
      refine rg_q (q_load sz31 rfl rfl) ?_
      refine rg_q (q_len isl31 rfl (by exact len_map _ _)) ?_
      refine rg_q (q_makeFunc (.cons rfl (.cons rfl (.cons rfl .nil)))) ?_
      refine rg_q (q_call en107 (.cons rfl (.cons rfl (.cons rfl .nil))) rfl ((by have := built_p (fcI a p) 131 [.pt [.v (.int .i64 (maxF (fcT a p)))] 0, .pt [.sl 1 ((fcT a p).map iC)] 0, .pt (larC a) 0] en131 a.ck a.el.length (by omega) (fun i hi => by have hg : (fcT a p)[i]? = some ((fcT a p).getD ((i : Int).toNat) 0) := (by rw [List.getD_eq_getElem?_getD, Int.toNat_natCast, List.getElem?_eq_getElem (by omega)]; rfl); have hb := fcT_in _ (List.mem_of_getElem? hg); exact focused1_p a (fcT a p) (maxF (fcT a p)) i _ hg hb.1 hb.2 m1 m2 c1 c2) hT; (rw [htl]; exact this)))) ?_
      refine rg_q (q_extract rfl rfl) ?_
      refine rg_q (q_extract rfl rfl) ?_
      refine rg_nil ?_
      refine aops_store sz33 rfl rfl (by exact .inr ⟨_, rfl⟩) rfl rfl (by decide) rfl ?_
      refine aops_q rfl (q_assign (x := .d (.v _)) rfl) ?_
      refine aops_nil ?_
      change Awp _ _ _ _ _
      refine awp_len (t := 40) rfl (fun hl40 => ?_)
      (try simp only [List.length_map] at hl40)
      refine awp_ret ?_
      refine ⟨_, (.cons (.cellA rfl rfl sz33 rfl) (.cons (.tmp (by exact .d _)) .nil)), ?_⟩
      rfl
end Go.Proofs.YtgeieocphgnipaaGreatDoor.Am.M
