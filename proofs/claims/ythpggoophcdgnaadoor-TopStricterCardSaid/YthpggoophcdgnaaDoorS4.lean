/- Contracts over the abstract machine: chapter 9: right codes, amended codes. Conditions: none. -/
import Derived.Test.YthpggoophcdgnaaDoorS3
set_option linter.unusedVariables false
set_option linter.unusedSimpArgs false
-- mini
namespace Go.Proofs.YthpggoophcdgnaaDoor.Am.M
open Go

def ckL : Nat → List Rw → Int × Int
  | _, [] => (0, 0)
  | i, r :: l => if ckRw r ≠ 0 then ((i : Int), ckRw r) else ckL (i + 1) l
theorem ckL_at {l : List Rw} {k : Nat} {r : Rw} (h : l[k]? = some r) : ckL k (l.drop k) = if ckRw r ≠ 0 then ((k : Int), ckRw r) else ckL (k + 1) (l.drop (k + 1)) := by
  obtain ⟨hlt, rfl⟩ := List.getElem?_eq_some_iff.1 h
  rw [List.drop_eq_getElem_cons hlt]; rfl
def ckCd (c : Cd) : Int × Int := if isNm c.nm = false then (0, 4) else if 10 < c.ex.length ∨ 10 < c.ro.length then (0, 8) else ckL 0 c.all
def ckRs : List Rw → Int
  | [] => 0
  | r :: l => if ckRw r ≠ 0 then ckRw r else ckRs l
theorem ckRs_at {l : List Rw} {k : Nat} {r : Rw} (h : l[k]? = some r) : ckRs (l.drop k) = if ckRw r ≠ 0 then ckRw r else ckRs (l.drop (k + 1)) := by
  obtain ⟨hlt, rfl⟩ := List.getElem?_eq_some_iff.1 h
  rw [List.drop_eq_getElem_cons hlt]; rfl
set_option maxRecDepth 100000 in
theorem checkCode_p (c : Cd) (hx : c.ex.length ≤ 1000) (hr : c.ro.length ≤ 1000) (hn : c.nm.size ≤ 1000) : PCG Tryd.prog GW 22 [.agg (cdC c)] (.tup [.v (.int .i64 ((ckCd c).1)), .v (.int .i64 ((ckCd c).2))]) := by
  have hal : c.all.length = c.ex.length + c.ro.length := List.length_append
  refine pcg_of_awpN gw_keep Tryd.func22 rfl Tryd.ntmps22 (rs := [.tmp 2, .tmp 3]) Tryd.results22 (by simp) fun w0 hmine hrnd hpn hG => ?_
  refine awp_seq ?_
  refine awp_region 3 mixed (by kernel_rfl) ?_
  refine rg_q (q_box rfl (by exact .inr ⟨_, rfl⟩)) ?_
  refine rg_q (q_assign (x := .d (.v _)) rfl) ?_
  refine rg_q (q_assign (x := .d (.v _)) rfl) ?_
  refine rg_nil ?_
  refine aops_nil ?_
  change Awp _ _ _ _ _
  refine awp_seq ?_
  refine awp_block ?_
  refine awp_seq ?_
  refine awp_region 5 mixed (by kernel_rfl) ?_
  refine rg_q (q_fieldAddr fld24_0 rfl) ?_
  refine rg_q (q_load sz9 rfl rfl) ?_
  refine rg_q (q_call en41 (.cons rfl .nil) rfl (isName_p _ (by omega))) ?_
  refine rg_q (q_not rfl) ?_
  refine rg_q (q_assign (x := .d (.v _)) rfl) ?_
  refine rg_nil ?_
  refine aops_nil ?_
  change Awp _ _ _ _ _
  refine awp_cond rfl (fun hc1 => ?_) (fun hc1 => ?_)
  ·
    (try simp only [nb, ne_eq] at hc1)
    have hz : ckCd c = (0, 4) := if_pos hc1
    refine awp_seq ?_
    refine awp_region 2 mixed (by kernel_rfl) ?_
    refine rg_q (q_assign (x := .d (.v _)) rfl) ?_
    refine rg_q (q_assign (x := .d (.v _)) rfl) ?_
    refine rg_nil ?_
    refine aops_nil ?_
    change Awp _ _ _ _ _
    refine awp_ret ?_
    refine ⟨_, (.cons (.tmp (by exact .d _)) (.cons (.tmp (by exact .d _)) .nil)), ?_⟩
    rw [hz]; rfl
  ·
    (try simp only [nb, ne_eq] at hc1)
    refine awp_seq ?_
    refine awp_region 11 mixed (by kernel_rfl) ?_
    refine rg_q (q_fieldAddr fld24_1 rfl) ?_
    refine rg_q (q_load sz22 rfl rfl) ?_
    refine rg_q (q_len isl22 rfl (by exact len_map _ _)) ?_
    refine rg_q (q_gtr rfl rfl) ?_
    refine rg_q (q_move (x := .d (.v _)) rfl) ?_
    refine rg_g rfl rfl (fun hG => (q_fieldAddr fld24_2 rfl)) ?_
    refine rg_g rfl rfl (fun hG => (q_load sz22 rfl rfl)) ?_
    refine rg_g rfl rfl (fun hG => (q_len isl22 rfl (by exact len_map _ _))) ?_
    refine rg_g rfl rfl (fun hG => (q_gtr rfl rfl)) ?_
    refine rg_pick rfl rfl rfl rfl rfl rfl ?_
    refine rg_q (q_assign (x := .d (.v _)) rfl) ?_
    refine rg_nil ?_
    refine aops_nil ?_
    change Awp _ _ _ _ _
    refine awp_len (t := 14) rfl (fun hl14 => ?_)
    (try simp only [List.length_map] at hl14)
    refine awp_cond rfl (fun hc3 => ?_) (fun hc3 => ?_)
    ·
      (try simp only [nb, ne_eq] at hc3)
      have hz : ckCd c = (0, 8) := (if_neg (by rw [hc1]; decide)).trans (if_pos (by omega))
      refine awp_seq ?_
      refine awp_region 2 mixed (by kernel_rfl) ?_
      refine rg_q (q_assign (x := .d (.v _)) rfl) ?_
      refine rg_q (q_assign (x := .d (.v _)) rfl) ?_
      refine rg_nil ?_
      refine aops_nil ?_
      change Awp _ _ _ _ _
      refine awp_ret ?_
      refine ⟨_, (.cons (.tmp (by exact .d _)) (.cons (.tmp (by exact .d _)) .nil)), ?_⟩
      rw [hz]; rfl
    ·
      (try simp only [nb, ne_eq] at hc3)
      have hz : ckCd c = ckL 0 c.all := (if_neg (by rw [hc1]; decide)).trans (if_neg (by omega))
      refine awp_skip ?_
      change Awp _ _ _ _ _
      refine awp_seq ?_
      refine awp_seq ?_
      refine awp_region 4 mixed (by kernel_rfl) ?_
      refine rg_q (q_loadA (ds := [_, _, _]) sz24 rfl rfl rfl) ?_
      refine rg_q (q_call en42 (.cons rfl .nil) rfl (all_p _ (by omega) (by omega))) ?_
      refine rg_q (q_len isl22 rfl (by exact len_map _ _)) ?_
      refine rg_q (q_move (x := .d (.v _)) rfl) ?_
      refine rg_nil ?_
      refine aops_nil ?_
      change Awp _ _ _ _ _
      refine awp_len (t := 24) rfl (fun hl24 => ?_)
      (try simp only [List.length_map] at hl24)
      refine awp_block ?_
      refine awp_loopH [2, 3, 4, 5, 6, 26, 27, 28, 29, 30, 31, 32, 33, 34, 35, 36, 37] [] (α := Nat) (fun k => [(26, T.i (k : Int))]) (fun k => []) (fun k => k ≤ c.all.length ∧ ckL 0 c.all = ckL k (c.all.drop k)) (fun k => c.all.length - k) 0 ⟨Nat.zero_le _, rfl⟩ ?_ ?_
      · exact le_head (ms := []) (by repeat (exact Out.refl _)) ⟨(by rfl), trivial⟩ trivial rfl rfl rfl rfl
      ·
        intro k ⟨hk, hq⟩
        refine awp_seq ?_
        refine awp_region 1 mixed (by kernel_rfl) ?_
        refine rg_q (q_lss rfl rfl) ?_
        refine rg_nil ?_
        refine aops_nil ?_
        change Awp _ _ _ _ _
        refine awp_seq ?_
        refine awp_cond rfl (fun hc6 => ?_) (fun hc6 => ?_)
        ·
          (try simp only [nb, ne_eq] at hc6)
          have hlt : k < c.all.length := by (try simp only [List.length_map] at hc6); omega
          obtain ⟨r, hx⟩ : ∃ r, c.all[k]? = some r := ⟨_, List.getElem?_eq_getElem hlt⟩
          have hd := ckL_at hx
          refine awp_skip ?_
          change Awp _ _ _ _ _
          refine awp_seq ?_
          refine awp_block ?_
          refine awp_seq ?_
          refine awp_region 3 mixed (by kernel_rfl) ?_
          refine rg_q (q_move (x := .d (.v _)) rfl) ?_
          refine rg_q (q_indexAddr sl22 rfl rfl (by omega) (map_at (by omega) hx)) ?_
          refine rg_q (q_loadA sz43 rfl rfl rfl) ?_
          refine rg_nil ?_
          refine aops_alloc zr43 rfl rfl rfl ?_
          refine aops_q rfl (q_assign (x := .d (.v _)) rfl) ?_
          refine aops_store sz43 rfl rfl (by exact .inr ⟨_, rfl⟩) rfl rfl (by decide) rfl ?_
          refine aops_nil ?_
          change Awp _ _ _ _ _
          refine awp_seq ?_
          refine awp_region 3 mixed (by kernel_rfl) ?_
          refine rg_q (q_load_refA sz43 rfl rfl rfl rfl) ?_
          refine rg_q (q_callG en23 (.cons rfl .nil) rfl hG (rowErr_p _)) ?_
          refine rg_q (q_assign (x := .d (.v _)) rfl) ?_
          refine rg_nil ?_
          refine aops_nil ?_
          change Awp _ _ _ _ _
          refine awp_seq ?_
          refine awp_region 2 mixed (by kernel_rfl) ?_
          refine rg_q (q_move (x := .d (.v _)) rfl) ?_
          refine rg_q (q_neq rfl rfl) ?_
          refine rg_nil ?_
          refine aops_nil ?_
          change Awp _ _ _ _ _
          refine awp_cond rfl (fun hc9 => ?_) (fun hc9 => ?_)
          ·
            (try simp only [nb, ne_eq] at hc9)
            rw [hq, hd, if_pos hc9] at hz
            refine awp_seq ?_
            refine awp_region 4 mixed (by kernel_rfl) ?_
            refine rg_q (q_move (x := .d (.v _)) rfl) ?_
            refine rg_q (q_move (x := .d (.v _)) rfl) ?_
            refine rg_q (q_assign (x := .d (.v _)) rfl) ?_
            refine rg_q (q_assign (x := .d (.v _)) rfl) ?_
            refine rg_nil ?_
            refine aops_nil ?_
            change Awp _ _ _ _ _
            refine awp_ret ?_
            refine ⟨_, (.cons (.tmp (by exact .d _)) (.cons (.tmp (by exact .d _)) .nil)), ?_⟩
            rw [hz]; rfl
          ·
            (try simp only [nb, ne_eq] at hc9)
            rw [if_neg (fun h => h hc9)] at hd
            refine awp_skip ?_
            change Awp _ _ _ _ _
            refine awp_region 2 mixed (by kernel_rfl) ?_
            refine rg_q (q_add rfl rfl (In64.mk (by omega) (by omega))) ?_
            refine rg_q (q_move (x := .d (.v _)) rfl) ?_
            refine rg_nil ?_
            refine aops_nil ?_
            refine ⟨k + 1, ⟨by omega, by rw [hq, hd]⟩, by omega, ?_⟩
            exact le_head (ms := []) (by repeat (first | exact Out.head rfl rfl | (refine Out.put ?_ rfl) | (refine Out.site ?_ rfl))) ⟨(by rfl), trivial⟩ trivial rfl rfl rfl rfl
        ·
          (try simp only [nb, ne_eq] at hc6)
          have hkn : k = c.all.length := by (try simp only [List.length_map] at hc6); omega
          have hf : ckL 0 c.all = (0, 0) := by rw [hq, hkn, List.drop_length]; rfl
          rw [hf] at hz
          refine awp_exit ?_
          change Awp _ _ _ _ _
          refine awp_seq ?_
          refine awp_region 2 mixed (by kernel_rfl) ?_
          refine rg_q (q_assign (x := .d (.v _)) rfl) ?_
          refine rg_q (q_assign (x := .d (.v _)) rfl) ?_
          refine rg_nil ?_
          refine aops_nil ?_
          change Awp _ _ _ _ _
          refine awp_ret ?_
          refine ⟨_, (.cons (.tmp (by exact .d _)) (.cons (.tmp (by exact .d _)) .nil)), ?_⟩
          rw [hz]; rfl
set_option maxRecDepth 100000 in
theorem rcheckCode_p (c : Cd) (hx : c.ex.length ≤ 1000) (hr : c.ro.length ≤ 1000) (hn : c.nm.size ≤ 1000) : PC Tryd.prog 8 [.agg (cdC c)] (.tup [.v (.int .i64 ((ckCd c).1)), .v (.int .i64 ((ckCd c).2))]) := by
  have hal : c.all.length = c.ex.length + c.ro.length := List.length_append
  refine pc_of_awp Tryd.func8 rfl Tryd.ntmps8 (rs := [.tmp 2, .tmp 3]) Tryd.results8 (by simp) fun w0 => ?_
  refine awp_seq ?_
  refine awp_region 3 mixed (by kernel_rfl) ?_
  refine rg_q (q_box rfl (by exact .inr ⟨_, rfl⟩)) ?_
  refine rg_q (q_assign (x := .d (.v _)) rfl) ?_
  refine rg_q (q_assign (x := .d (.v _)) rfl) ?_
  refine rg_nil ?_
  refine aops_nil ?_
  change Awp _ _ _ _ _
  refine awp_seq ?_
  refine awp_seq ?_
  refine awp_region 4 mixed (by kernel_rfl) ?_
  refine rg_q (q_fieldAddr fld24_0 rfl) ?_
  refine rg_q (q_load sz9 rfl rfl) ?_
  refine rg_q (q_call en19 (.cons rfl .nil) rfl (IsName_p _)) ?_
  refine rg_q (q_not rfl) ?_
  refine rg_nil ?_
  refine aops_nil ?_
  change Awp _ _ _ _ _
  refine awp_cond rfl (fun hc1 => ?_) (fun hc1 => ?_)
  ·
    (try simp only [nb, ne_eq] at hc1)
    have hz : ckCd c = (0, 4) := if_pos hc1
    refine awp_seq ?_
    refine awp_region 2 mixed (by kernel_rfl) ?_
    refine rg_q (q_assign (x := .d (.v _)) rfl) ?_
    refine rg_q (q_assign (x := .d (.v _)) rfl) ?_
    refine rg_nil ?_
    refine aops_nil ?_
    change Awp _ _ _ _ _
    refine awp_ret ?_
    refine ⟨_, (.cons (.tmp (by exact .d _)) (.cons (.tmp (by exact .d _)) .nil)), ?_⟩
    rw [hz]; rfl
  ·
    (try simp only [nb, ne_eq] at hc1)
    refine awp_skip ?_
    change Awp _ _ _ _ _
    refine awp_seq ?_
    refine awp_seq ?_
    refine awp_region 10 mixed (by kernel_rfl) ?_
    refine rg_q (q_fieldAddr fld24_1 rfl) ?_
    refine rg_q (q_load sz22 rfl rfl) ?_
    refine rg_q (q_len isl22 rfl (by exact len_map _ _)) ?_
    refine rg_q (q_gtr rfl rfl) ?_
    refine rg_q (q_move (x := .d (.v _)) rfl) ?_
    refine rg_g rfl rfl (fun hG => (q_fieldAddr fld24_2 rfl)) ?_
    refine rg_g rfl rfl (fun hG => (q_load sz22 rfl rfl)) ?_
    refine rg_g rfl rfl (fun hG => (q_len isl22 rfl (by exact len_map _ _))) ?_
    refine rg_g rfl rfl (fun hG => (q_gtr rfl rfl)) ?_
    refine rg_pick rfl rfl rfl rfl rfl rfl ?_
    refine rg_nil ?_
    refine aops_nil ?_
    change Awp _ _ _ _ _
    refine awp_len (t := 12) rfl (fun hl12 => ?_)
    (try simp only [List.length_map] at hl12)
    refine awp_cond rfl (fun hc3 => ?_) (fun hc3 => ?_)
    ·
      (try simp only [nb, ne_eq] at hc3)
      have hz : ckCd c = (0, 8) := (if_neg (by rw [hc1]; decide)).trans (if_pos (by omega))
      refine awp_seq ?_
      refine awp_region 2 mixed (by kernel_rfl) ?_
      refine rg_q (q_assign (x := .d (.v _)) rfl) ?_
      refine rg_q (q_assign (x := .d (.v _)) rfl) ?_
      refine rg_nil ?_
      refine aops_nil ?_
      change Awp _ _ _ _ _
      refine awp_ret ?_
      refine ⟨_, (.cons (.tmp (by exact .d _)) (.cons (.tmp (by exact .d _)) .nil)), ?_⟩
      rw [hz]; rfl
    ·
      (try simp only [nb, ne_eq] at hc3)
      have hz : ckCd c = ckL 0 c.all := (if_neg (by rw [hc1]; decide)).trans (if_neg (by omega))
      refine awp_skip ?_
      change Awp _ _ _ _ _
      refine awp_seq ?_
      refine awp_region 3 mixed (by kernel_rfl) ?_
      refine rg_q (q_loadA (ds := [_, _, _]) sz24 rfl rfl rfl) ?_
      refine rg_q (q_call en20 (.cons rfl .nil) rfl (rall_p _ (by omega) (by omega))) ?_
      refine rg_q (q_assign (x := .d (.sl _ _)) rfl) ?_
      refine rg_nil ?_
      refine aops_nil ?_
      change Awp _ _ _ _ _
      refine awp_seq ?_
      refine awp_seq ?_
      refine awp_region 1 mixed (by kernel_rfl) ?_
      refine rg_q (q_assign (x := .d (.v _)) rfl) ?_
      refine rg_nil ?_
      refine aops_nil ?_
      change Awp _ _ _ _ _
      refine awp_block ?_
      refine awp_loopH [2, 3, 5, 6, 23, 24, 25, 26, 27, 28, 29, 30, 31, 32, 33, 34, 35, 36, 37] [] (α := Nat) (fun k => [(5, T.i (k : Int))]) (fun k => []) (fun k => k ≤ c.all.length ∧ ckL 0 c.all = ckL k (c.all.drop k)) (fun k => c.all.length - k) 0 ⟨Nat.zero_le _, rfl⟩ ?_ ?_
      · exact le_head (ms := []) (by repeat (exact Out.refl _)) ⟨(by rfl), trivial⟩ trivial rfl rfl rfl rfl
      ·
        intro k ⟨hk, hq⟩
        refine awp_seq ?_
        refine awp_seq ?_
        refine awp_region 4 mixed (by kernel_rfl) ?_
        refine rg_q (q_move (x := .d (.v _)) rfl) ?_
        refine rg_q (q_move (x := .d (.sl _ _)) rfl) ?_
        refine rg_q (q_len isl22 rfl (by exact len_map _ _)) ?_
        refine rg_q (q_lss rfl rfl) ?_
        refine rg_nil ?_
        refine aops_nil ?_
        change Awp _ _ _ _ _
        refine awp_len (t := 24) rfl (fun hl24 => ?_)
        (try simp only [List.length_map] at hl24)
        refine awp_cond rfl (fun hc7 => ?_) (fun hc7 => ?_)
        ·
          (try simp only [nb, ne_eq] at hc7)
          have hlt : k < c.all.length := by (try simp only [List.length_map] at hc7); omega
          obtain ⟨r, hx⟩ : ∃ r, c.all[k]? = some r := ⟨_, List.getElem?_eq_getElem hlt⟩
          have hd := ckL_at hx
          refine awp_skip ?_
          change Awp _ _ _ _ _
          refine awp_seq ?_
          refine awp_block ?_
          refine awp_seq ?_
          refine awp_region 6 mixed (by kernel_rfl) ?_
          refine rg_q (q_move (x := .d (.sl _ _)) rfl) ?_
          refine rg_q (q_move (x := .d (.v _)) rfl) ?_
          refine rg_q (q_indexAddr sl22 rfl rfl (by omega) (map_at (by omega) hx)) ?_
          refine rg_q (q_loadA sz43 rfl rfl rfl) ?_
          refine rg_q (q_call en21 (.cons rfl .nil) rfl (rrowErr_p _)) ?_
          refine rg_q (q_assign (x := .d (.v _)) rfl) ?_
          refine rg_nil ?_
          refine aops_nil ?_
          change Awp _ _ _ _ _
          refine awp_seq ?_
          refine awp_region 2 mixed (by kernel_rfl) ?_
          refine rg_q (q_move (x := .d (.v _)) rfl) ?_
          refine rg_q (q_neq rfl rfl) ?_
          refine rg_nil ?_
          refine aops_nil ?_
          change Awp _ _ _ _ _
          refine awp_cond rfl (fun hc10 => ?_) (fun hc10 => ?_)
          ·
            (try simp only [nb, ne_eq] at hc10)
            rw [hq, hd, if_pos hc10] at hz
            refine awp_seq ?_
            refine awp_region 4 mixed (by kernel_rfl) ?_
            refine rg_q (q_move (x := .d (.v _)) rfl) ?_
            refine rg_q (q_move (x := .d (.v _)) rfl) ?_
            refine rg_q (q_assign (x := .d (.v _)) rfl) ?_
            refine rg_q (q_assign (x := .d (.v _)) rfl) ?_
            refine rg_nil ?_
            refine aops_nil ?_
            change Awp _ _ _ _ _
            refine awp_ret ?_
            refine ⟨_, (.cons (.tmp (by exact .d _)) (.cons (.tmp (by exact .d _)) .nil)), ?_⟩
            rw [hz]; rfl
          ·
            (try simp only [nb, ne_eq] at hc10)
            rw [if_neg (fun h => h hc10)] at hd
            refine awp_skip ?_
            change Awp _ _ _ _ _
            refine awp_region 3 mixed (by kernel_rfl) ?_
            refine rg_q (q_move (x := .d (.v _)) rfl) ?_
            refine rg_q (q_add rfl rfl (In64.mk (by omega) (by omega))) ?_
            refine rg_q (q_assign (x := .d (.v _)) rfl) ?_
            refine rg_nil ?_
            refine aops_nil ?_
            refine ⟨k + 1, ⟨by omega, by rw [hq, hd]⟩, by omega, ?_⟩
            exact le_head (ms := []) (by repeat (first | exact Out.head rfl rfl | (refine Out.put ?_ rfl))) ⟨(by rfl), trivial⟩ trivial rfl rfl rfl rfl
        ·
          (try simp only [nb, ne_eq] at hc7)
          have hkn : k = c.all.length := by (try simp only [List.length_map] at hc7); omega
          have hf : ckL 0 c.all = (0, 0) := by rw [hq, hkn, List.drop_length]; rfl
          rw [hf] at hz
          refine awp_exit ?_
          change Awp _ _ _ _ _
          refine awp_seq ?_
          refine awp_region 2 mixed (by kernel_rfl) ?_
          refine rg_q (q_assign (x := .d (.v _)) rfl) ?_
          refine rg_q (q_assign (x := .d (.v _)) rfl) ?_
          refine rg_nil ?_
          refine aops_nil ?_
          change Awp _ _ _ _ _
          refine awp_ret ?_
          refine ⟨_, (.cons (.tmp (by exact .d _)) (.cons (.tmp (by exact .d _)) .nil)), ?_⟩
          rw [hz]; rfl
set_option maxRecDepth 100000 in
theorem open_p (c : Cd) (hx : c.ex.length ≤ 1000) (hr : c.ro.length ≤ 1000) (hn : c.nm.size ≤ 1000) : PCG Tryd.prog GW 27 [.agg (cdC c)] (.tup [.sl 13 (c.all.map rwC), .v (.int .i64 ((ckCd c).2))]) := by
  refine pcg_of_awpN gw_keep Tryd.func27 rfl Tryd.ntmps27 (rs := [.tmp 2, .tmp 3]) Tryd.results27 (by simp) fun w0 hmine hrnd hpn hG => ?_
  refine awp_seq ?_
  refine awp_region 3 mixed (by kernel_rfl) ?_
  refine rg_q (q_box rfl (by exact .inr ⟨_, rfl⟩)) ?_
  refine rg_q (q_assign (x := .d (.sl _ _)) rfl) ?_
  refine rg_q (q_assign (x := .d (.v _)) rfl) ?_
  refine rg_nil ?_
  refine aops_nil ?_
  change Awp _ _ _ _ _
  refine awp_seq ?_
  refine awp_region 7 mixed (by kernel_rfl) ?_
  refine rg_q (q_loadA (ds := [_, _, _]) sz24 rfl rfl rfl) ?_
  refine rg_q (q_callG en22 (.cons rfl .nil) rfl hG (checkCode_p _ (by omega) (by omega) (by omega))) ?_
  refine rg_q (q_move (x := .d (.tup _)) rfl) ?_
  refine rg_q (q_extract rfl rfl) ?_
  refine rg_q (q_extract rfl rfl) ?_
  refine rg_q (q_assign (x := .d (.v _)) rfl) ?_
  refine rg_q (q_assign (x := .d (.v _)) rfl) ?_
  refine rg_nil ?_
  refine aops_nil ?_
  change Awp _ _ _ _ _
  refine awp_seq ?_
  refine awp_region 5 mixed (by kernel_rfl) ?_
  refine rg_q (q_loadA (ds := [_, _, _]) sz24 rfl rfl rfl) ?_
  refine rg_q (q_call en42 (.cons rfl .nil) rfl (all_p _ (by omega) (by omega))) ?_
  refine rg_q (q_move (x := .d (.v _)) rfl) ?_
  refine rg_q (q_assign (x := .d (.sl _ _)) rfl) ?_
  refine rg_q (q_assign (x := .d (.v _)) rfl) ?_
  refine rg_nil ?_
  refine aops_nil ?_
  change Awp _ _ _ _ _
  refine awp_ret ?_
  refine ⟨_, (.cons (.tmp (by exact .d _)) (.cons (.tmp (by exact .d _)) .nil)), ?_⟩
  rfl

def fewB (n m : Int) : Bool := decide (n ≤ m) || (decide (10 < n) && decide (n ≤ 12))
def shortB (c : Cd) : Bool := fewB c.ex.length 2 && fewB c.ro.length 3 && decide ((c.nm.size : Int) ≤ 20)
set_option maxRecDepth 100000 in
theorem few_p (l : List (List D)) (m : Int) : PC Tryd.prog 17 [.sl 13 l, .v (.int .i64 (m))] (.v (.bool (fewB l.length m))) := by
  refine pc_of_awp Tryd.func17 rfl Tryd.ntmps17 (rs := [.tmp 4]) Tryd.results17 (by simp) fun w0 => ?_
  refine awp_seq ?_
  refine awp_region 1 mixed (by kernel_rfl) ?_
  refine rg_q (q_assign (x := .d (.v _)) rfl) ?_
  refine rg_nil ?_
  refine aops_nil ?_
  change Awp _ _ _ _ _
  refine awp_seq ?_
  refine awp_region 15 mixed (by kernel_rfl) ?_
  refine rg_q (q_move (x := .d (.sl _ _)) rfl) ?_
  refine rg_q (q_len isl22 rfl (by rfl)) ?_
  refine rg_q (q_move (x := .d (.v _)) rfl) ?_
  refine rg_q (q_leq rfl rfl) ?_
  refine rg_q (q_move (x := .d (.v _)) rfl) ?_
  refine rg_g rfl rfl (fun hG => (q_move (x := .d (.sl _ _)) rfl)) ?_
  refine rg_g rfl rfl (fun hG => (q_len isl22 rfl (by rfl))) ?_
  refine rg_g rfl rfl (fun hG => (q_gtr rfl rfl)) ?_
  refine rg_g rfl rfl (fun hG => (q_move (x := .d (.v _)) rfl)) ?_
  refine rg_g rfl rfl (fun hG => (q_move (x := .d (.sl _ _)) rfl)) ?_
  refine rg_g rfl rfl (fun hG => (q_len isl22 rfl (by rfl))) ?_
  refine rg_g rfl rfl (fun hG => (q_leq rfl rfl)) ?_
  refine rg_pickg rfl rfl rfl rfl rfl rfl rfl rfl ?_
  refine rg_pick rfl rfl rfl rfl rfl rfl ?_
  refine rg_q (q_assign (x := .d (.v _)) rfl) ?_
  refine rg_nil ?_
  refine aops_nil ?_
  change Awp _ _ _ _ _
  refine awp_len (t := 5) rfl (fun hl5 => ?_)
  (try simp only [List.length_map] at hl5)
  refine awp_ret ?_
  refine ⟨_, (.cons (.tmp (by exact .d _)) .nil), ?_⟩
  simp only [bif_and, bif_or]; rfl
set_option maxRecDepth 100000 in
theorem short_p (c : Cd) : PC Tryd.prog 5 [.agg (cdC c)] (.v (.bool (shortB c))) := by
  refine pc_of_awp Tryd.func5 rfl Tryd.ntmps5 (rs := [.tmp 2]) Tryd.results5 (by simp) fun w0 => ?_
  refine awp_seq ?_
  refine awp_region 2 mixed (by kernel_rfl) ?_
  refine rg_q (q_box rfl (by exact .inr ⟨_, rfl⟩)) ?_
  refine rg_q (q_assign (x := .d (.v _)) rfl) ?_
  refine rg_nil ?_
  refine aops_nil ?_
  change Awp _ _ _ _ _
  refine awp_seq ?_
  refine awp_region 15 mixed (by kernel_rfl) ?_
  refine rg_q (q_fieldAddr fld24_1 rfl) ?_
  refine rg_q (q_load sz22 rfl rfl) ?_
  refine rg_q (q_call en17 (.cons rfl (.cons rfl .nil)) rfl (few_p _ _)) ?_
  refine rg_q (q_move (x := .d (.v _)) rfl) ?_
  refine rg_g rfl rfl (fun hG => (q_fieldAddr fld24_2 rfl)) ?_
  refine rg_g rfl rfl (fun hG => (q_load sz22 rfl rfl)) ?_
  refine rg_g rfl rfl (fun hG => (q_call en17 (.cons rfl (.cons rfl .nil)) rfl (few_p _ _))) ?_
  refine rg_pick rfl rfl rfl rfl rfl rfl ?_
  refine rg_q (q_move (x := .d (.v _)) rfl) ?_
  refine rg_g rfl rfl (fun hG => (q_fieldAddr fld24_0 rfl)) ?_
  refine rg_g rfl rfl (fun hG => (q_load sz9 rfl rfl)) ?_
  refine rg_g rfl rfl (fun hG => (q_len_str str9 rfl)) ?_
  refine rg_g rfl rfl (fun hG => (q_leq rfl rfl)) ?_
  refine rg_pick rfl rfl rfl rfl rfl rfl ?_
  refine rg_q (q_assign (x := .d (.v _)) rfl) ?_
  refine rg_nil ?_
  refine aops_nil ?_
  change Awp _ _ _ _ _
  refine awp_ret ?_
  refine ⟨_, (.cons (.tmp (by exact .d _)) .nil), ?_⟩
  simp only [bif_and, bif_or, List.length_map]; rfl

def Bx.set (b : Bx) (q : Nat) (r : Int × Int) : Bx := match q with | 0 => { b with r0 := r } | 1 => { b with r1 := r } | 2 => { b with r2 := r } | 3 => { b with r3 := r } | 4 => { b with r4 := r } | _ => { b with r5 := r }
def Mk.set (m : Mk) (q : Nat) (x : Int) : Mk := match q with | 0 => { m with x0 := x } | 1 => { m with x1 := x } | 2 => { m with x2 := x } | 3 => { m with x3 := x } | 4 => { m with x4 := x } | _ => { m with x5 := x }
def whB : Bx := ⟨(0, 9), (0, 20000), (0, 20000), (0, 20000), (0, 100000), (0, 200)⟩
def whK : Nat → Bx
  | 0 => ⟨(0, 0), (0, 0), (0, 0), (0, 0), (0, 0), (0, 0)⟩
  | k + 1 => (whK k).set k (0, gr k)
theorem bx_set (b : Bx) {k : Nat} (r : Int × Int) (h : k < 6) : setCs (bxC b) (0 + (k : Int).toNat * 2) [iv r.1, iv r.2] = bxC (b.set k r) := by
  rcases lt6 h with rfl | rfl | rfl | rfl | rfl | rfl <;> rfl
theorem mk_set (m : Mk) {k : Nat} (x : Int) (h : k < 6) : setCs (mkC m) (0 + (k : Int).toNat * 1) [iv x] = mkC (m.set k x) := by
  rcases lt6 h with rfl | rfl | rfl | rfl | rfl | rfl <;> rfl
theorem bx_room (b : Bx) {k : Nat} (h : k < 6) : 0 + (k : Int).toNat * 2 + 2 ≤ (bxC b).length := by show 0 + k * 2 + 2 ≤ 12; omega
theorem mk_room (m : Mk) {k : Nat} (h : k < 6) : 0 + (k : Int).toNat * 1 + 1 ≤ (mkC m).length := by show 0 + k * 1 + 1 ≤ 6; omega
set_option maxRecDepth 100000 in
theorem whole_p  : PC Tryd.prog 13 [] (.agg (bxC whB)) := by
  refine pc_of_awp Tryd.func13 rfl Tryd.ntmps13 (rs := [.cell 0 41]) Tryd.results13 (by simp) fun w0 => ?_
  refine awp_seq ?_
  refine awp_region 0 mixed (by kernel_rfl) ?_
  refine rg_nil ?_
  refine aops_alloc zr41 rfl rfl rfl ?_
  refine aops_nil ?_
  change Awp _ _ _ _ _
  refine awp_seq ?_
  refine awp_region 0 mixed (by kernel_rfl) ?_
  refine rg_nil ?_
  refine aops_alloc zr41 rfl rfl rfl ?_
  refine aops_nil ?_
  change Awp _ _ _ _ _
  refine awp_seq ?_
  refine awp_seq ?_
  refine awp_region 1 mixed (by kernel_rfl) ?_
  refine rg_q (q_assign (x := .d (.v _)) rfl) ?_
  refine rg_nil ?_
  refine aops_nil ?_
  change Awp _ _ _ _ _
  refine awp_block ?_
  refine awp_loopH [2, 3, 4, 5, 6, 7, 8, 9, 10, 11] [1] (α := Nat) (fun k => [(2, T.i (k : Int))]) (fun k => [(1, .box (bxC (whK k)))]) (fun k => k ≤ 6) (fun k => 6 - k) 0 (Nat.zero_le _) ?_ ?_
  · exact le_head (ms := [1]) (by repeat (exact Out.refl _)) ⟨(by rfl), trivial⟩ ⟨(by rfl), trivial⟩ rfl rfl rfl rfl
  ·
    intro k hk
    refine awp_seq ?_
    refine awp_seq ?_
    refine awp_region 2 mixed (by kernel_rfl) ?_
    refine rg_q (q_move (x := .d (.v _)) rfl) ?_
    refine rg_q (q_lss rfl rfl) ?_
    refine rg_nil ?_
    refine aops_nil ?_
    change Awp _ _ _ _ _
    refine awp_cond rfl (fun hc3 => ?_) (fun hc3 => ?_)
    ·
      (try simp only [nb, ne_eq] at hc3)
      have hlt : k < 6 := by omega
      refine awp_skip ?_
      change Awp _ _ _ _ _
      refine awp_seq ?_
      refine awp_block ?_
      refine awp_region 5 mixed (by kernel_rfl) ?_
      refine rg_q (q_move (x := .d (.v _)) rfl) ?_
      refine rg_q (q_move (x := .d (.v _)) rfl) ?_
      refine rg_q (q_call en18 (.cons rfl .nil) rfl (greatest_p k hlt)) ?_
      refine rg_q (q_build (cs := [_, _]) pl39 zr39 rfl (.cons rfl (by exact .inl rfl) (.cons rfl (by exact .inl rfl) .nil)) ⟨⟨rfl, by decide⟩, ⟨rfl, by decide⟩, trivial⟩ rfl) ?_
      refine rg_q (q_indexAddr_aref ar41 rfl rfl (by omega) (by omega)) ?_
      refine rg_nil ?_
      refine aops_store (cs' := bxC ((whK k).set (k) (0, gr k))) sz39 rfl rfl (by exact .inr ⟨_, rfl⟩) rfl rfl (bx_room (whK k) hlt) (bx_set (whK k) (0, gr k) hlt) ?_
      refine aops_nil ?_
      change Awp _ _ _ _ _
      refine awp_region 3 mixed (by kernel_rfl) ?_
      refine rg_q (q_move (x := .d (.v _)) rfl) ?_
      refine rg_q (q_add rfl rfl (In64.mk (by omega) (by omega))) ?_
      refine rg_q (q_assign (x := .d (.v _)) rfl) ?_
      refine rg_nil ?_
      refine aops_nil ?_
      refine ⟨k + 1, by omega, by omega, ?_⟩
      exact le_head (ms := [1]) (by repeat (first | exact Out.head rfl rfl | (refine Out.put ?_ rfl) | (refine Out.site ?_ rfl))) ⟨(by rfl), trivial⟩ ⟨(by rfl), trivial⟩ rfl rfl rfl rfl
    ·
      (try simp only [nb, ne_eq] at hc3)
      have hk6 : k = 6 := by omega
      subst hk6
      refine awp_exit ?_
      change Awp _ _ _ _ _
      refine awp_seq ?_
      refine awp_region 1 mixed (by kernel_rfl) ?_
      refine rg_q (q_load_refA (ds := [_, _, _, _, _, _, _, _, _, _, _, _]) sz41 rfl rfl rfl rfl) ?_
      refine rg_nil ?_
      refine aops_store sz41 rfl rfl (by exact .inr ⟨_, rfl⟩) rfl rfl (by decide) rfl ?_
      refine aops_nil ?_
      change Awp _ _ _ _ _
      refine awp_ret ?_
      refine ⟨_, (.cons (.cellA rfl rfl sz41 rfl) .nil), ?_⟩
      rfl
set_option maxRecDepth 100000 in
theorem box_p (q : Nat) (lo hi : Int) (hlt : q < 6) : PC Tryd.prog 39 [.v (.int .i64 ((q : Int))), .v (.int .i64 (lo)), .v (.int .i64 (hi))] (.agg (bxC (whB.set q (lo, hi)))) := by
  refine pc_of_awp Tryd.func39 rfl Tryd.ntmps39 (rs := [.cell 6 41]) Tryd.results39 (by simp) fun w0 => ?_
  refine awp_seq ?_
  refine awp_region 0 mixed (by kernel_rfl) ?_
  refine rg_nil ?_
  refine aops_alloc zr41 rfl rfl rfl ?_
  refine aops_nil ?_
  change Awp _ _ _ _ _
  refine awp_seq ?_
  refine awp_region 1 mixed (by kernel_rfl) ?_
  refine rg_q (q_call en13 .nil rfl (whole_p)) ?_
  refine rg_nil ?_
  refine aops_alloc zr41 rfl rfl rfl ?_
  refine aops_store sz41 rfl rfl (by exact .inr ⟨_, rfl⟩) rfl rfl (by decide) rfl ?_
  refine aops_nil ?_
  change Awp _ _ _ _ _
  refine awp_seq ?_
  refine awp_region 5 mixed (by kernel_rfl) ?_
  refine rg_q (q_move (x := .d (.v _)) rfl) ?_
  refine rg_q (q_move (x := .d (.v _)) rfl) ?_
  refine rg_q (q_move (x := .d (.v _)) rfl) ?_
  refine rg_q (q_build (cs := [_, _]) pl39 zr39 rfl (.cons rfl (by exact .inl rfl) (.cons rfl (by exact .inl rfl) .nil)) ⟨⟨rfl, by decide⟩, ⟨rfl, by decide⟩, trivial⟩ rfl) ?_
  refine rg_q (q_indexAddr_aref ar41 rfl rfl (by omega) (by omega)) ?_
  refine rg_nil ?_
  refine aops_store (cs' := bxC ((whB).set (q) (lo, hi))) sz39 rfl rfl (by exact .inr ⟨_, rfl⟩) rfl rfl (bx_room (whB) hlt) (bx_set (whB) (lo, hi) hlt) ?_
  refine aops_nil ?_
  change Awp _ _ _ _ _
  refine awp_seq ?_
  refine awp_region 1 mixed (by kernel_rfl) ?_
  refine rg_q (q_load_refA (ds := [_, _, _, _, _, _, _, _, _, _, _, _]) sz41 rfl rfl rfl rfl) ?_
  refine rg_nil ?_
  refine aops_store sz41 rfl rfl (by exact .inr ⟨_, rfl⟩) rfl rfl (by decide) rfl ?_
  refine aops_nil ?_
  change Awp _ _ _ _ _
  refine awp_ret ?_
  refine ⟨_, (.cons (.cellA rfl rfl sz41 rfl) .nil), ?_⟩
  rfl

def strC : Cd := ⟨⟨#[115]⟩, [⟨(whB.set 0 (1, 1)).set 5 (50, 200), 1⟩], [⟨whB.set 3 (0, 200), 0⟩, ⟨whB.set 3 (201, 20000), 1⟩]⟩
set_option maxRecDepth 100000 in
theorem strict_p  : PC Tryd.prog 16 [] (.agg (cdC strC)) := by
  refine pc_of_awp Tryd.func16 rfl Tryd.ntmps16 (rs := [.cell 0 24]) Tryd.results16 (by simp) fun w0 => ?_
  refine awp_seq ?_
  refine awp_region 0 mixed (by kernel_rfl) ?_
  refine rg_nil ?_
  refine aops_alloc zr24 rfl rfl rfl ?_
  refine aops_nil ?_
  change Awp _ _ _ _ _
  refine awp_seq ?_
  refine awp_region 1 mixed (by kernel_rfl) ?_
  refine rg_q (q_call en39 (.cons rfl (.cons rfl (.cons rfl .nil))) rfl (box_p 0 1 1 (by decide))) ?_
  refine rg_nil ?_
  refine aops_alloc zr41 rfl rfl rfl ?_
  refine aops_store sz41 rfl rfl (by exact .inr ⟨_, rfl⟩) rfl rfl (by decide) rfl ?_
  refine aops_nil ?_
  change Awp _ _ _ _ _
  refine awp_seq ?_
  refine awp_region 2 mixed (by kernel_rfl) ?_
  refine rg_q (q_build (cs := [_, _]) pl39 zr39 rfl (.cons rfl (by exact .inl rfl) (.cons rfl (by exact .inl rfl) .nil)) ⟨⟨rfl, by decide⟩, ⟨rfl, by decide⟩, trivial⟩ rfl) ?_
  refine rg_q (q_indexAddr_aref ar41 rfl rfl (by omega) (by omega)) ?_
  refine rg_nil ?_
  refine aops_store (cs' := bxC ((whB.set 0 (1, 1)).set 5 (50, 200))) sz39 rfl rfl (by exact .inr ⟨_, rfl⟩) rfl rfl (Nat.le_of_ble_eq_true rfl) rfl ?_
  refine aops_nil ?_
  change Awp _ _ _ _ _
  refine awp_seq ?_
  refine awp_region 9 mixed (by kernel_rfl) ?_
  refine rg_q (q_load_refA (ds := [_, _, _, _, _, _, _, _, _, _, _, _]) sz41 rfl rfl rfl rfl) ?_
  refine rg_q (q_build pl43 zr43 rfl (.cons rfl (by exact .inr ⟨_, rfl⟩) (.cons rfl (by exact .inl rfl) .nil)) ⟨⟨rfl, by decide⟩, ⟨rfl, by decide⟩, trivial⟩ rfl) ?_
  refine rg_q (q_buildSlice sl22 zr43 rfl rfl (by decide) (.cons rfl (by exact .inr ⟨_, rfl⟩) .nil) ⟨rfl, rfl, trivial⟩ rfl (by decide) rfl) ?_
  refine rg_q (q_call en39 (.cons rfl (.cons rfl (.cons rfl .nil))) rfl (box_p 3 0 200 (by decide))) ?_
  refine rg_q (q_build pl43 zr43 rfl (.cons rfl (by exact .inr ⟨_, rfl⟩) (.cons rfl (by exact .inl rfl) .nil)) ⟨⟨rfl, by decide⟩, ⟨rfl, by decide⟩, trivial⟩ rfl) ?_
  refine rg_q (q_call en39 (.cons rfl (.cons rfl (.cons rfl .nil))) rfl (box_p 3 201 20000 (by decide))) ?_
  refine rg_q (q_build pl43 zr43 rfl (.cons rfl (by exact .inr ⟨_, rfl⟩) (.cons rfl (by exact .inl rfl) .nil)) ⟨⟨rfl, by decide⟩, ⟨rfl, by decide⟩, trivial⟩ rfl) ?_
  refine rg_q (q_buildSlice sl22 zr43 rfl rfl (by decide) (.cons rfl (by exact .inr ⟨_, rfl⟩) (.cons rfl (by exact .inr ⟨_, rfl⟩) .nil)) ⟨rfl, rfl, rfl, rfl, trivial⟩ rfl (by decide) rfl) ?_
  refine rg_q (q_build (cs := [_, _, _]) pl24 zr24 rfl (.cons rfl (by exact .inl rfl) (.cons rfl (by exact .inl rfl) (.cons rfl (by exact .inl rfl) .nil))) ⟨⟨rfl, by decide⟩, ⟨rfl, by decide⟩, ⟨rfl, by decide⟩, trivial⟩ rfl) ?_
  refine rg_nil ?_
  refine aops_store sz24 rfl rfl (by exact .inr ⟨_, rfl⟩) rfl rfl (by decide) rfl ?_
  refine aops_nil ?_
  change Awp _ _ _ _ _
  refine awp_ret ?_
  refine ⟨_, (.cons (.cellA rfl rfl sz24 rfl) .nil), ?_⟩
  rfl
set_option maxRecDepth 100000 in
theorem amended_p (c : Cd) (hx : c.ex.length ≤ 1000) (hr : c.ro.length ≤ 1000) (hn : c.nm.size ≤ 1000) (l : List Rw) (hl : l.length ≤ 10) (h1 : (ckCd c).2 = 0) (h2 : ckRs l = 0) (h3 : l.length + c.ex.length ≤ 10) : PCG Tryd.prog GW 10 [.agg (cdC c), .sl 13 (l.map rwC)] (.tup [.agg (cdC ⟨c.nm, l ++ c.ex, c.ro⟩), .v (.int .i64 (0))]) := by
  refine pcg_of_awpN gw_keep Tryd.func10 rfl Tryd.ntmps10 (rs := [.cell 4 24, .tmp 5]) Tryd.results10 (by simp) fun w0 hmine hrnd hpn hG => ?_
  refine awp_seq ?_
  refine awp_region 0 mixed (by kernel_rfl) ?_
  refine rg_nil ?_
  refine aops_box (X := .agg (cdC c)) rfl (by exact .inr ⟨_, rfl⟩) rfl rfl rfl ?_
  refine aops_alloc zr24 rfl rfl rfl ?_
  refine aops_q rfl (q_assign (x := .d (.v _)) rfl) ?_
  refine aops_nil ?_
  change Awp _ _ _ _ _
  refine awp_seq ?_
  refine awp_seq ?_
  refine awp_region 7 mixed (by kernel_rfl) ?_
  refine rg_q (q_load_refA (ds := [_, _, _]) sz24 rfl rfl rfl rfl) ?_
  refine rg_q (q_callG en22 (.cons rfl .nil) rfl hG (checkCode_p _ (by omega) (by omega) (by omega))) ?_
  refine rg_q (q_move (x := .d (.tup _)) rfl) ?_
  refine rg_q (q_extract rfl rfl) ?_
  refine rg_q (q_extract rfl rfl) ?_
  refine rg_q (q_assign (x := .d (.v _)) rfl) ?_
  refine rg_q (q_assign (x := .d (.v _)) rfl) ?_
  refine rg_nil ?_
  refine aops_nil ?_
  change Awp _ _ _ _ _
  refine awp_seq ?_
  refine awp_region 2 mixed (by kernel_rfl) ?_
  refine rg_q (q_move (x := .d (.v _)) rfl) ?_
  refine rg_q (q_neq rfl rfl) ?_
  refine rg_nil ?_
  refine aops_nil ?_
  change Awp _ _ _ _ _
  refine awp_cond rfl (fun hc2 => ?_) (fun hc2 => ?_)
  ·
    exact absurd h1 (of_decide_eq_true hc2)
  ·
    (try simp only [nb, ne_eq] at hc2)
    refine awp_skip ?_
    change Awp _ _ _ _ _
    refine awp_seq ?_
    refine awp_seq ?_
    refine awp_region 3 mixed (by kernel_rfl) ?_
    refine rg_q (q_move (x := .d (.sl _ _)) rfl) ?_
    refine rg_q (q_len isl22 rfl (by exact len_map _ _)) ?_
    refine rg_q (q_move (x := .d (.v _)) rfl) ?_
    refine rg_nil ?_
    refine aops_nil ?_
    change Awp _ _ _ _ _
    refine awp_len (t := 20) rfl (fun hl20 => ?_)
    (try simp only [List.length_map] at hl20)
    refine awp_block ?_
    refine awp_loopH [5, 9, 10, 22, 23, 24, 25, 26, 27, 28, 29, 30, 31, 32] [] (α := Nat) (fun k => [(22, T.i (k : Int))]) (fun k => []) (fun k => k ≤ l.length ∧ ckRs l = ckRs (l.drop k)) (fun k => l.length - k) 0 ⟨Nat.zero_le _, rfl⟩ ?_ ?_
    · exact le_head (ms := []) (by repeat (exact Out.refl _)) ⟨(by rfl), trivial⟩ trivial rfl rfl rfl rfl
    ·
      intro k ⟨hk, hq⟩
      refine awp_seq ?_
      refine awp_region 1 mixed (by kernel_rfl) ?_
      refine rg_q (q_lss rfl rfl) ?_
      refine rg_nil ?_
      refine aops_nil ?_
      change Awp _ _ _ _ _
      refine awp_seq ?_
      refine awp_cond rfl (fun hc5 => ?_) (fun hc5 => ?_)
      ·
        (try simp only [nb, ne_eq] at hc5)
        have hlt : k < l.length := by (try simp only [List.length_map] at hc5); omega
        obtain ⟨r, hx⟩ : ∃ r, l[k]? = some r := ⟨_, List.getElem?_eq_getElem hlt⟩
        have hd := ckRs_at hx
        rw [← hq, h2] at hd
        refine awp_skip ?_
        change Awp _ _ _ _ _
        refine awp_seq ?_
        refine awp_block ?_
        refine awp_seq ?_
        refine awp_region 2 mixed (by kernel_rfl) ?_
        refine rg_q (q_indexAddr sl22 rfl rfl (by omega) (map_at (by omega) hx)) ?_
        refine rg_q (q_loadA sz43 rfl rfl rfl) ?_
        refine rg_nil ?_
        refine aops_alloc zr43 rfl rfl rfl ?_
        refine aops_store sz43 rfl rfl (by exact .inr ⟨_, rfl⟩) rfl rfl (by decide) rfl ?_
        refine aops_nil ?_
        change Awp _ _ _ _ _
        refine awp_seq ?_
        refine awp_region 3 mixed (by kernel_rfl) ?_
        refine rg_q (q_load_refA sz43 rfl rfl rfl rfl) ?_
        refine rg_q (q_callG en23 (.cons rfl .nil) rfl hG (rowErr_p _)) ?_
        refine rg_q (q_assign (x := .d (.v _)) rfl) ?_
        refine rg_nil ?_
        refine aops_nil ?_
        change Awp _ _ _ _ _
        refine awp_seq ?_
        refine awp_region 2 mixed (by kernel_rfl) ?_
        refine rg_q (q_move (x := .d (.v _)) rfl) ?_
        refine rg_q (q_neq rfl rfl) ?_
        refine rg_nil ?_
        refine aops_nil ?_
        change Awp _ _ _ _ _
        refine awp_cond rfl (fun hc8 => ?_) (fun hc8 => ?_)
        ·
          rw [if_pos (of_decide_eq_true hc8)] at hd; exact absurd hd.symm (of_decide_eq_true hc8)
        ·
          (try simp only [nb, ne_eq] at hc8)
          rw [if_neg (fun h => h hc8)] at hd
          refine awp_skip ?_
          change Awp _ _ _ _ _
          refine awp_region 2 mixed (by kernel_rfl) ?_
          refine rg_q (q_add rfl rfl (In64.mk (by omega) (by omega))) ?_
          refine rg_q (q_move (x := .d (.v _)) rfl) ?_
          refine rg_nil ?_
          refine aops_nil ?_
          refine ⟨k + 1, ⟨by omega, by rw [← hd, h2]⟩, by omega, ?_⟩
          exact le_head (ms := []) (by repeat (first | exact Out.head rfl rfl | (refine Out.put ?_ rfl) | (refine Out.site ?_ rfl))) ⟨(by rfl), trivial⟩ trivial rfl rfl rfl rfl
      ·
        (try simp only [nb, ne_eq] at hc5)
        refine awp_exit ?_
        change Awp _ _ _ _ _
        refine awp_seq ?_
        refine awp_seq ?_
        refine awp_region 7 mixed (by kernel_rfl) ?_
        refine rg_q (q_move (x := .d (.sl _ _)) rfl) ?_
        refine rg_q (q_len isl22 rfl (by exact len_map _ _)) ?_
        refine rg_q (q_fieldAddr_ref fld24_1 rfl) ?_
        refine rg_q (q_load_ref sz22 rfl rfl rfl) ?_
        refine rg_q (q_len isl22 rfl (by exact len_map _ _)) ?_
        refine rg_q (q_add rfl rfl (In64.mk (by omega) (by omega))) ?_
        refine rg_q (q_gtr rfl rfl) ?_
        refine rg_nil ?_
        refine aops_nil ?_
        change Awp _ _ _ _ _
        refine awp_len (t := 33) rfl (fun hl33 => ?_)
        (try simp only [List.length_map] at hl33)
        refine awp_len (t := 36) rfl (fun hl36 => ?_)
        (try simp only [List.length_map] at hl36)
        refine awp_cond rfl (fun hc11 => ?_) (fun hc11 => ?_)
        ·
          exact absurd (of_decide_eq_true hc11) (by (try simp only [List.length_map]); omega)
        ·
          (try simp only [nb, ne_eq] at hc11)
          refine awp_skip ?_
          change Awp _ _ _ _ _
          refine awp_seq ?_
          refine awp_region 2 mixed (by kernel_rfl) ?_
          refine rg_q (q_load_refA (ds := [_, _, _]) sz24 rfl rfl rfl rfl) ?_
          refine rg_q (q_call en24 (.cons rfl .nil) rfl (copied_p _ (by omega) (by omega))) ?_
          refine rg_nil ?_
          refine aops_store sz24 rfl rfl (by exact .inr ⟨_, rfl⟩) rfl rfl (by exact Nat.le_of_ble_eq_true rfl) rfl ?_
          refine aops_nil ?_
          change Awp _ _ _ _ _
          refine awp_seq ?_
          refine awp_region 6 mixed (by kernel_rfl) ?_
          refine rg_q (q_move (x := .d (.sl _ _)) rfl) ?_
          refine rg_q (q_fieldAddr_ref fld24_1 rfl) ?_
          refine rg_q (q_load_ref sz22 rfl rfl rfl) ?_
          refine rg_q (q_buildSlice sl89 zr22 rfl rfl (by decide) (.cons rfl (by exact .inl rfl) (.cons rfl (by exact .inl rfl) .nil)) ⟨rfl, rfl, rfl, rfl, trivial⟩ rfl (by decide) rfl) ?_
          refine rg_q (q_call en25 (.cons rfl .nil) rfl (concat_p [l.map rwC, c.ex.map rwC] (by simp; omega) (by simp))) ?_
          refine rg_q (q_fieldAddr_ref fld24_1 rfl) ?_
          refine rg_nil ?_
          refine aops_store sz22 rfl rfl (by exact .inl rfl) rfl rfl (by exact Nat.le_of_ble_eq_true rfl) rfl ?_
          refine aops_nil ?_
          change Awp _ _ _ _ _
          refine awp_seq ?_
          refine awp_region 1 mixed (by kernel_rfl) ?_
          refine rg_q (q_load_refA (ds := [_, _, _]) sz24 rfl rfl rfl rfl) ?_
          refine rg_nil ?_
          refine aops_store sz24 rfl rfl (by exact .inr ⟨_, rfl⟩) rfl rfl (by decide) rfl ?_
          refine aops_q rfl (q_assign (x := .d (.v _)) rfl) ?_
          refine aops_nil ?_
          change Awp _ _ _ _ _
          refine awp_ret ?_
          refine ⟨_, (.cons (.cellA rfl rfl sz24 rfl) (.cons (.tmp (by exact .d _)) .nil)), ?_⟩
          simp only [cdC, List.map_append, List.flatten_cons, List.flatten_nil, List.append_nil]; rfl
end Go.Proofs.YthpggoophcdgnaaDoor.Am.M
