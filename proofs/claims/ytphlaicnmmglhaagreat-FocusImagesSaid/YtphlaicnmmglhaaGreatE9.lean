/- Contracts over the abstract machine: package focus: deals. Conditions: none. -/
import Derived.Test.YtphlaicnmmglhaaGreatE8
set_option linter.unusedVariables false
set_option linter.unusedSimpArgs false
-- mini
namespace Go.Proofs.YtphlaicnmmglhaaGreat.Am.M
open Go

theorem mp215 : mpB Tryz.prog 215 4 = true := by kernel_rfl
def frR (n : Int) : List Int → List Int → Int × List Int
  | ks, [] => (0, ks)
  | ks, x :: l => if ¬ inR 0 x (n - 1) = true then (6, ks) else if x ∈ ks then (24, ks) else frR n (ks ++ [x]) l
theorem frR_at {n : Int} {ks l : List Int} {k : Nat} {x : Int} (h : l[k]? = some x) : frR n ks (l.drop k) = if ¬ inR 0 x (n - 1) = true then (6, ks) else if x ∈ ks then (24, ks) else frR n (ks ++ [x]) (l.drop (k + 1)) := by
  obtain ⟨hlt, rfl⟩ := List.getElem?_eq_some_iff.1 h
  rw [List.drop_eq_getElem_cons hlt]; rfl
def lC (l : List Int) : List D := [.sl 1 (l.map iC)]
def dlT (n : Int) : List Int → Int → List (List Int) → Int × (List Int × Int)
  | ks, b, [] => (0, (ks, b))
  | ks, b, l :: dl => if (frR n ks l).1 ≠ 0 then ((frR n ks l).1, (ks, b)) else dlT n (frR n ks l).2 (if 0 < l.length then b + 1 else b) dl
theorem dlT_at {n : Int} {ks : List Int} {b : Int} {dl : List (List Int)} {k : Nat} {l : List Int} (h : dl[k]? = some l) : dlT n ks b (dl.drop k) = if (frR n ks l).1 ≠ 0 then ((frR n ks l).1, (ks, b)) else dlT n (frR n ks l).2 (if 0 < l.length then b + 1 else b) (dl.drop (k + 1)) := by
  obtain ⟨hlt, rfl⟩ := List.getElem?_eq_some_iff.1 h
  rw [List.drop_eq_getElem_cons hlt]; rfl
def dealR (n : Int) (dl : List (List Int)) : Int × Int :=
  if ¬ inR 1 n 16 = true then (0, 2) else if 16 < dl.length then (0, 8)
  else if (dlT n [] 0 dl).1 ≠ 0 then (0, (dlT n [] 0 dl).1) else if ((dlT n [] 0 dl).2.1.length : Int) < n then (0, 14) else ((dlT n [] 0 dl).2.2, 0)
set_option maxRecDepth 100000 in
theorem firingsErr_p (n : Int) (l ks : List Int) (h1 : -1000000 ≤ n) (h2 : n ≤ 1000000) : PCS Tryz.prog 133 [.d (.v (.int .i64 (n))), .d (.sl 1 (l.map iC)), .mp 0] [.mp (mpE ks) ks.length] (.d (.v (.int .i64 ((frR n ks l).1)))) [.mp (mpE (frR n ks l).2) (frR n ks l).2.length] := by
 refine pcs_of_awp Tryz.func133 rfl Tryz.ntmps133 (rs := [.tmp 6]) Tryz.results133 (by simp) fun w0 => ?_
 refine awp_seq ?_
 refine awp_region 1 mixed (by kernel_rfl) ?_
 refine rg_q (q_assign (x := .d (.v _)) rfl) ?_
 refine rg_nil (aops_nil ?_)
 change Awp _ _ _ _ _
 refine awp_seq ?_
 refine awp_seq ?_
 refine awp_region 3 mixed (by kernel_rfl) ?_
 refine rg_q (q_move (x := .d (.sl _ _)) rfl) ?_
 refine rg_q (q_len isl77 rfl (by exact len_map _ _)) ?_
 refine rg_q (q_move (x := .d (.v _)) rfl) ?_
 refine rg_nil (aops_nil ?_)
 change Awp _ _ _ _ _
 refine awp_len (t := 9) rfl (fun hl9 => ?_)
 (try simp only [List.length_map] at hl9)
 refine awp_block ?_
 refine awp_loopH [6, 8, 11, 12, 13, 14, 15, 16, 17, 18, 19, 20, 21, 22, 23, 24, 25, 26, 27] [28] (α := Nat) (fun k => [(11, T.i (k : Int))]) (fun k => [(28, .mp (mpE (ks ++ l.take k)) (ks ++ l.take k).length)]) (fun k => k ≤ l.length ∧ frR n ks l = frR n (ks ++ l.take k) (l.drop k)) (fun k => l.length - k) 0 ⟨Nat.zero_le _, by simp⟩ ?_ ?_
 · exact le_head (ms := [28]) (by repeat (exact Out.refl _)) ⟨(by rfl), trivial⟩ ⟨(by ((show Site.mp _ _ = Site.mp _ _; (simp; done)))), trivial⟩ rfl rfl rfl rfl
 ·
  intro k ⟨hk, hh⟩
  refine awp_seq ?_
  refine awp_region 1 mixed (by kernel_rfl) ?_
  refine rg_q (q_lss rfl rfl) ?_
  refine rg_nil (aops_nil ?_)
  change Awp _ _ _ _ _
  refine awp_seq ?_
  refine awp_cond rfl (fun hc2 => ?_) (fun hc2 => ?_)
  ·
   (try simp only [nb, ne_eq] at hc2)
   have hlt : k < l.length := by omega
   obtain ⟨x, hx⟩ : ∃ x, l[k]? = some x := ⟨_, List.getElem?_eq_getElem hlt⟩
   rw [frR_at hx] at hh
   have hsn : ks ++ l.take (k + 1) = ks ++ l.take k ++ [x] := by rw [List.take_succ_eq_append_getElem hlt, (List.getElem?_eq_some_iff.1 hx).2, List.append_assoc]
   refine awp_skip ?_
   change Awp _ _ _ _ _
   refine awp_seq ?_
   refine awp_block ?_
   refine awp_seq ?_
   refine awp_region 3 mixed (by kernel_rfl) ?_
   refine rg_q (q_indexAddr sl77 rfl rfl (by omega) (map_at (by omega) hx)) ?_
   refine rg_q (q_load sz3 rfl rfl) (rg_q (q_assign (x := .d (.v _)) rfl) ?_)
   refine rg_nil (aops_nil ?_)
   change Awp _ _ _ _ _
   refine awp_seq ?_
   refine awp_block ?_
   refine awp_seq ?_
   refine awp_region 6 mixed (by kernel_rfl) ?_
   refine rg_q (q_move (x := .d (.v _)) rfl) (rg_q (q_move (x := .d (.v _)) rfl) ?_)
   refine rg_q (q_sub rfl rfl (In64.mk (by omega) (by omega))) ?_
   refine rg_q (q_call en89 (.cons rfl (.cons rfl (.cons rfl .nil))) rfl (fwithin_p _ _ _)) ?_
   refine rg_q (q_not rfl) (rg_q (q_assign (x := .d (.v _)) rfl) ?_)
   refine rg_nil (aops_nil ?_)
   change Awp _ _ _ _ _
   refine awp_cond rfl (fun hc4 => ?_) (fun hc4 => ?_)
   ·
    (try simp only [nb, ne_eq] at hc4)
    have hz : frR n ks l = (6, ks ++ l.take k) := by rw [hh, if_pos (by rw [hc4]; decide)]
    refine awp_seq ?_
    refine awp_region 1 mixed (by kernel_rfl) ?_
    refine rg_q (q_assign (x := .d (.v _)) rfl) ?_
    refine rg_nil (aops_nil ?_)
    change Awp _ _ _ _ _
    refine awp_ret ?_
    rw [hz]
    exact end_mk (.inl rfl) [28] (.tmp rfl) (by repeat (first | exact trivial | refine ⟨(by rfl), ?_⟩)) rfl
   ·
    (try simp only [nb, ne_eq] at hc4)
    rw [if_neg (fun q => q hc4)] at hh
    refine awp_seq ?_
    refine awp_region 4 mixed (by kernel_rfl) ?_
    refine rg_q (q_move (x := .own _ _ _ _) rfl) (rg_q (q_move (x := .d (.v _)) rfl) ?_)
    refine rg_q (q_lookmap mp215 zr4 rfl rfl rfl) ?_
    refine rg_q (q_assign (x := .d (.v _)) rfl) ?_
    refine rg_nil (aops_nil ?_)
    change Awp _ _ _ _ _
    refine awp_cond rfl (fun hc6 => ?_) (fun hc6 => ?_)
    ·
     (try simp only [nb, ne_eq] at hc6)
     have hz : frR n ks l = (24, ks ++ l.take k) := by rw [hh, if_pos hc6]
     refine awp_seq ?_
     refine awp_region 1 mixed (by kernel_rfl) ?_
     refine rg_q (q_assign (x := .d (.v _)) rfl) ?_
     refine rg_nil (aops_nil ?_)
     change Awp _ _ _ _ _
     refine awp_ret ?_
     rw [hz]
     exact end_mk (.inl rfl) [28] (.tmp rfl) (by repeat (first | exact trivial | refine ⟨(by rfl), ?_⟩)) rfl
    ·
     (try simp only [nb, ne_eq] at hc6)
     rw [if_neg hc6] at hh
     refine awp_skip ?_
     change Awp _ _ _ _ _
     refine awp_region 2 mixed (by kernel_rfl) ?_
     refine rg_q (q_move (x := .own _ _ _ _) rfl) (rg_q (q_move (x := .d (.v _)) rfl) ?_)
     refine rg_nil ?_
     refine aops_mapUpdate mp215 rfl rfl rfl rfl hc6 ?_
     refine aops_nil ?_
     change Awp _ _ _ _ _
     refine awp_region 2 mixed (by kernel_rfl) ?_
     refine rg_q (q_add rfl rfl (In64.mk (by omega) (by omega))) ?_
     refine rg_q (q_move (x := .d (.v _)) rfl) ?_
     refine rg_nil (aops_nil ?_)
     refine ⟨k + 1, ⟨by omega, by rw [hh, hsn]⟩, by omega, ?_⟩
     exact le_head (ms := [28]) (by repeat (first | exact Out.head rfl rfl | (refine Out.put ?_ rfl) | (refine Out.site ?_ rfl))) ⟨(by rfl), trivial⟩ ⟨(by ((show Site.mp _ _ = Site.mp _ _; (rw [hsn]; done)))), trivial⟩ rfl rfl rfl rfl
  ·
   (try simp only [nb, ne_eq] at hc2)
   have hkn : k = l.length := by omega
   have hz : frR n ks l = (0, ks ++ l.take k) := by rw [hh, hkn, List.drop_length]; rfl
   refine awp_exit ?_
   change Awp _ _ _ _ _
   refine awp_seq ?_
   refine awp_region 1 mixed (by kernel_rfl) ?_
   refine rg_q (q_assign (x := .d (.v _)) rfl) ?_
   refine rg_nil (aops_nil ?_)
   change Awp _ _ _ _ _
   refine awp_ret ?_
   rw [hz]
   exact end_mk (.inl rfl) [28] (.tmp rfl) (by repeat (first | exact trivial | refine ⟨(by rfl), ?_⟩)) rfl
set_option maxRecDepth 100000 in
theorem checkDeal_p (n : Int) (dl : List (List Int)) : PC Tryz.prog 84 [.v (.int .i64 (n)), .sl 1 (dl.map lC)] (.tup [.v (.int .i64 ((dealR n dl).1)), .v (.int .i64 ((dealR n dl).2))]) := by
 refine pc_of_awpN Tryz.func84 rfl Tryz.ntmps84 (rs := [.tmp 4, .tmp 5]) Tryz.results84 (by simp) fun w0 hmine hrnd hpn => ?_
 refine awp_seq ?_
 refine awp_region 2 mixed (by kernel_rfl) ?_
 refine rg_q (q_assign (x := .d (.v _)) rfl) (rg_q (q_assign (x := .d (.v _)) rfl) ?_)
 refine rg_nil (aops_nil ?_)
 change Awp _ _ _ _ _
 refine awp_seq ?_
 refine awp_block ?_
 refine awp_seq ?_
 refine awp_region 4 mixed (by kernel_rfl) ?_
 refine rg_q (q_move (x := .d (.v _)) rfl) ?_
 refine rg_q (q_call en89 (.cons rfl (.cons rfl (.cons rfl .nil))) rfl (fwithin_p _ _ _)) ?_
 refine rg_q (q_not rfl) (rg_q (q_assign (x := .d (.v _)) rfl) ?_)
 refine rg_nil (aops_nil ?_)
 change Awp _ _ _ _ _
 refine awp_cond rfl (fun hc1 => ?_) (fun hc1 => ?_)
 ·
  (try simp only [nb, ne_eq] at hc1)
  have hz : dealR n dl = (0, 2) := by unfold dealR; rw [if_pos (by rw [hc1]; decide)]
  refine awp_seq ?_
  refine awp_region 2 mixed (by kernel_rfl) ?_
  refine rg_q (q_assign (x := .d (.v _)) rfl) (rg_q (q_assign (x := .d (.v _)) rfl) ?_)
  refine rg_nil (aops_nil ?_)
  change Awp _ _ _ _ _
  refine awp_ret ?_
  refine ⟨_, (.cons (.tmp (by exact .d _)) (.cons (.tmp (by exact .d _)) .nil)), ?_⟩
  rw [hz]; rfl
 ·
  (try simp only [nb, ne_eq] at hc1)
  have hn : 1 ≤ n ∧ n ≤ 16 := inR_iff.1 hc1
  refine awp_seq ?_
  refine awp_region 4 mixed (by kernel_rfl) ?_
  refine rg_q (q_move (x := .d (.sl _ _)) rfl) ?_
  refine rg_q (q_len isl120 rfl (by exact len_map _ _)) ?_
  refine rg_q (q_gtr rfl rfl) (rg_q (q_assign (x := .d (.v _)) rfl) ?_)
  refine rg_nil (aops_nil ?_)
  change Awp _ _ _ _ _
  refine awp_len (t := 16) rfl (fun hl16 => ?_)
  (try simp only [List.length_map] at hl16)
  refine awp_cond rfl (fun hc3 => ?_) (fun hc3 => ?_)
  ·
   (try simp only [nb, ne_eq] at hc3)
   have hz : dealR n dl = (0, 8) := by unfold dealR; rw [if_neg (fun q => q hc1), if_pos (by omega)]
   refine awp_seq ?_
   refine awp_region 2 mixed (by kernel_rfl) ?_
   refine rg_q (q_assign (x := .d (.v _)) rfl) (rg_q (q_assign (x := .d (.v _)) rfl) ?_)
   refine rg_nil (aops_nil ?_)
   change Awp _ _ _ _ _
   refine awp_ret ?_
   refine ⟨_, (.cons (.tmp (by exact .d _)) (.cons (.tmp (by exact .d _)) .nil)), ?_⟩
   rw [hz]; rfl
  ·
   (try simp only [nb, ne_eq] at hc3)
   have hz0 : dealR n dl = if (dlT n [] 0 dl).1 ≠ 0 then (0, (dlT n [] 0 dl).1) else if ((dlT n [] 0 dl).2.1.length : Int) < n then (0, 14) else ((dlT n [] 0 dl).2.2, 0) := by unfold dealR; rw [if_neg (fun q => q hc1), if_neg (by omega)]
   refine awp_skip ?_
   change Awp _ _ _ _ _
   refine awp_seq ?_
   refine awp_region 0 mixed (by kernel_rfl) ?_
   refine rg_nil ?_
   refine aops_makeMap rfl rfl ?_
   refine aops_q rfl (q_assign (x := .own _ _ _ _) rfl) ?_
   refine aops_nil ?_
   change Awp _ _ _ _ _
   refine awp_seq ?_
   refine awp_region 1 mixed (by kernel_rfl) ?_
   refine rg_q (q_assign (x := .d (.v _)) rfl) ?_
   refine rg_nil (aops_nil ?_)
   change Awp _ _ _ _ _
   refine awp_seq ?_
   refine awp_seq ?_
   refine awp_region 3 mixed (by kernel_rfl) ?_
   refine rg_q (q_move (x := .d (.sl _ _)) rfl) ?_
   refine rg_q (q_len isl120 rfl (by exact len_map _ _)) ?_
   refine rg_q (q_move (x := .d (.v _)) rfl) ?_
   refine rg_nil (aops_nil ?_)
   change Awp _ _ _ _ _
   refine awp_len (t := 20) rfl (fun hl20 => ?_)
   (try simp only [List.length_map] at hl20)
   refine awp_block ?_
   refine awp_loopH [4, 5, 7, 9, 10, 22, 23, 24, 25, 26, 27, 28, 29, 30, 31, 32, 33, 34, 35, 36, 37, 38] [19] (α := Nat × List Int × Int) (fun x => [(22, T.i (x.1 : Int)), (7, .d (.v (.int .i64 (x.2.2))))]) (fun x => [(19, .mp (mpE x.2.1) x.2.1.length)]) (fun x => x.1 ≤ dl.length ∧ dlT n [] 0 dl = dlT n x.2.1 x.2.2 (dl.drop x.1) ∧ 0 ≤ x.2.2 ∧ x.2.2 ≤ (x.1 : Int)) (fun x => dl.length - x.1) (0, [], 0) ⟨Nat.zero_le _, rfl, by decide, by decide⟩ ?_ ?_
   · exact le_head (ms := [19]) (by repeat (exact Out.refl _)) ⟨(by rfl), (by rfl), trivial⟩ ⟨(by rfl), trivial⟩ rfl rfl rfl rfl
   ·
    intro x ⟨hk, hh, hb1, hb2⟩
    refine awp_seq ?_
    refine awp_region 1 mixed (by kernel_rfl) ?_
    refine rg_q (q_lss rfl rfl) ?_
    refine rg_nil (aops_nil ?_)
    change Awp _ _ _ _ _
    refine awp_seq ?_
    refine awp_cond rfl (fun hc8 => ?_) (fun hc8 => ?_)
    ·
     (try simp only [nb, ne_eq] at hc8)
     have hlt : x.1 < dl.length := by omega
     obtain ⟨l, hx⟩ : ∃ l, dl[x.1]? = some l := ⟨_, List.getElem?_eq_getElem hlt⟩
     rw [dlT_at hx] at hh
     refine awp_skip ?_
     change Awp _ _ _ _ _
     refine awp_seq ?_
     refine awp_block ?_
     refine awp_seq ?_
     refine awp_region 3 mixed (by kernel_rfl) ?_
     refine rg_q (q_indexAddr sl120 rfl rfl (by omega) (map_at (by omega) hx)) ?_
     refine rg_q (q_load sz77 rfl rfl) (rg_q (q_assign (x := .d (.sl _ _)) rfl) ?_)
     refine rg_nil (aops_nil ?_)
     change Awp _ _ _ _ _
     refine awp_seq ?_
     refine awp_seq ?_
     refine awp_region 3 mixed (by kernel_rfl) ?_
     refine rg_q (q_move (x := .d (.v _)) rfl) (rg_q (q_move (x := .d (.sl _ _)) rfl) (rg_q (q_move (x := .own _ _ _ _) rfl) ?_))
     refine rg_nil ?_
     refine aops_callL [19] [] en133 (firingsErr_p n l x.2.1 (by omega) (by omega)) (.cons rfl (.cons rfl (.cons rfl .nil))) rfl rfl rfl (by repeat (first | exact trivial | refine ⟨rfl, ?_⟩)) (by repeat (exact trivial)) rfl ?_
     refine aops_q rfl (q_assign (x := .d (.v _)) rfl) ?_
     refine aops_nil ?_
     change Awp _ _ _ _ _
     refine awp_seq ?_
     refine awp_region 2 mixed (by kernel_rfl) ?_
     refine rg_q (q_move (x := .d (.v _)) rfl) (rg_q (q_neq rfl rfl) ?_)
     refine rg_nil (aops_nil ?_)
     change Awp _ _ _ _ _
     refine awp_cond rfl (fun hc11 => ?_) (fun hc11 => ?_)
     ·
      (try simp only [nb, ne_eq] at hc11)
      have hz : dealR n dl = (0, (frR n x.2.1 l).1) := by rw [hz0, hh, if_pos hc11, if_pos hc11]
      refine awp_seq ?_
      refine awp_region 3 mixed (by kernel_rfl) ?_
      refine rg_q (q_move (x := .d (.v _)) rfl) (rg_q (q_assign (x := .d (.v _)) rfl) (rg_q (q_assign (x := .d (.v _)) rfl) ?_))
      refine rg_nil (aops_nil ?_)
      change Awp _ _ _ _ _
      refine awp_ret ?_
      refine ⟨_, (.cons (.tmp (by exact .d _)) (.cons (.tmp (by exact .d _)) .nil)), ?_⟩
      rw [hz]; rfl
     ·
      (try simp only [nb, ne_eq] at hc11)
      rw [if_neg (fun q => q hc11)] at hh
      refine awp_skip ?_
      change Awp _ _ _ _ _
      refine awp_seq ?_
      refine awp_region 3 mixed (by kernel_rfl) ?_
      refine rg_q (q_move (x := .d (.sl _ _)) rfl) ?_
      refine rg_q (q_len isl77 rfl (by exact len_map _ _)) ?_
      refine rg_q (q_gtr rfl rfl) ?_
      refine rg_nil (aops_nil ?_)
      change Awp _ _ _ _ _
      refine awp_len (t := 33) rfl (fun hl33 => ?_)
      (try simp only [List.length_map] at hl33)
      refine awp_cond rfl (fun hc13 => ?_) (fun hc13 => ?_)
      ·
       (try simp only [nb, ne_eq] at hc13)
       rw [if_pos (by omega)] at hh
       refine awp_region 3 mixed (by kernel_rfl) ?_
       refine rg_q (q_move (x := .d (.v _)) rfl) ?_
       refine rg_q (q_add rfl rfl (In64.mk (by omega) (by omega))) ?_
       refine rg_q (q_assign (x := .d (.v _)) rfl) ?_
       refine rg_nil (aops_nil ?_)
       change Awp _ _ _ _ _
       refine awp_region 2 mixed (by kernel_rfl) ?_
       refine rg_q (q_add rfl rfl (In64.mk (by omega) (by omega))) ?_
       refine rg_q (q_move (x := .d (.v _)) rfl) ?_
       refine rg_nil (aops_nil ?_)
       refine ⟨(x.1 + 1, (frR n x.2.1 l).2, x.2.2 + 1), ⟨by show x.1 + 1 ≤ _; omega, hh, by show 0 ≤ x.2.2 + 1; omega, by show x.2.2 + 1 ≤ ((x.1 + 1 : Nat) : Int); omega⟩, by show dl.length - (x.1 + 1) < _; omega, ?_⟩
       exact le_head (ms := [19]) (by repeat (first | exact Out.head rfl rfl | (refine Out.put ?_ rfl) | (refine Out.called ?_ rfl rfl))) ⟨(by rfl), (by rfl), trivial⟩ ⟨(by rfl), trivial⟩ rfl rfl rfl rfl
      ·
       (try simp only [nb, ne_eq] at hc13)
       rw [if_neg (by omega)] at hh
       refine awp_skip ?_
       change Awp _ _ _ _ _
       refine awp_region 2 mixed (by kernel_rfl) ?_
       refine rg_q (q_add rfl rfl (In64.mk (by omega) (by omega))) ?_
       refine rg_q (q_move (x := .d (.v _)) rfl) ?_
       refine rg_nil (aops_nil ?_)
       refine ⟨(x.1 + 1, (frR n x.2.1 l).2, x.2.2), ⟨by show x.1 + 1 ≤ _; omega, hh, by show 0 ≤ x.2.2; omega, by show x.2.2 ≤ ((x.1 + 1 : Nat) : Int); omega⟩, by show dl.length - (x.1 + 1) < _; omega, ?_⟩
       exact le_head (ms := [19]) (by repeat (first | exact Out.head rfl rfl | (refine Out.put ?_ rfl) | (refine Out.called ?_ rfl rfl))) ⟨(by rfl), (by rfl), trivial⟩ ⟨(by rfl), trivial⟩ rfl rfl rfl rfl
    ·
     (try simp only [nb, ne_eq] at hc8)
     have hkn : x.1 = dl.length := by omega
     rw [hkn, List.drop_length, show dlT n x.2.1 x.2.2 [] = (0, (x.2.1, x.2.2)) from rfl] at hh
     rw [hh, if_neg (show ¬ ((0 : Int), (x.2.1, x.2.2)).1 ≠ 0 from fun q => q rfl)] at hz0
     refine awp_exit ?_
     change Awp _ _ _ _ _
     refine awp_seq ?_
     refine awp_seq ?_
     refine awp_region 4 mixed (by kernel_rfl) ?_
     refine rg_q (q_move (x := .own _ _ _ _) rfl) ?_
     refine rg_q (q_lenmap mp215 rfl rfl rfl) ?_
     refine rg_q (q_move (x := .d (.v _)) rfl) (rg_q (q_lss rfl rfl) ?_)
     refine rg_nil (aops_nil ?_)
     change Awp _ _ _ _ _
     refine awp_cond rfl (fun hc16 => ?_) (fun hc16 => ?_)
     ·
      (try simp only [nb, ne_eq] at hc16)
      have hz : dealR n dl = (0, 14) := by rw [hz0, if_pos (show (((0 : Int), (x.2.1, x.2.2)).2.1.length : Int) < n from hc16)]
      refine awp_seq ?_
      refine awp_region 2 mixed (by kernel_rfl) ?_
      refine rg_q (q_assign (x := .d (.v _)) rfl) (rg_q (q_assign (x := .d (.v _)) rfl) ?_)
      refine rg_nil (aops_nil ?_)
      change Awp _ _ _ _ _
      refine awp_ret ?_
      refine ⟨_, (.cons (.tmp (by exact .d _)) (.cons (.tmp (by exact .d _)) .nil)), ?_⟩
      rw [hz]; rfl
     ·
      (try simp only [nb, ne_eq] at hc16)
      have hz : dealR n dl = (x.2.2, 0) := by rw [hz0, if_neg (show ¬ (((0 : Int), (x.2.1, x.2.2)).2.1.length : Int) < n from by show ¬ (x.2.1.length : Int) < n; omega)]
      refine awp_skip ?_
      change Awp _ _ _ _ _
      refine awp_seq ?_
      refine awp_region 3 mixed (by kernel_rfl) ?_
      refine rg_q (q_move (x := .d (.v _)) rfl) (rg_q (q_assign (x := .d (.v _)) rfl) (rg_q (q_assign (x := .d (.v _)) rfl) ?_))
      refine rg_nil (aops_nil ?_)
      change Awp _ _ _ _ _
      refine awp_ret ?_
      refine ⟨_, (.cons (.tmp (by exact .d _)) (.cons (.tmp (by exact .d _)) .nil)), ?_⟩
      rw [hz]; rfl
end Go.Proofs.YtphlaicnmmglhaaGreat.Am.M
