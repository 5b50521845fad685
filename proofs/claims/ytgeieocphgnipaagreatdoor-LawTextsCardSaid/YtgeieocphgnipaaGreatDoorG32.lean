/- Contracts over the abstract machine: texts of laws: the code, the reference. Conditions: none. -/
import Derived.Test.YtgeieocphgnipaaGreatDoorG31
set_option linter.unusedVariables false
set_option linter.unusedSimpArgs false
-- mini
namespace Go.Proofs.YtgeieocphgnipaaGreatDoor.Am.M
open Go

def DlyI (x : Dly) : Prop := In64 x.ck ∧ ∀ n ∈ x.tk, In64 n
def tkT (n : Int) : List UInt8 := if n < 0 then [45] else Lib.itoa n
def fmtX (l : Dly) : List (List UInt8) := Lib.itoa l.ck :: l.tk.map tkT
def fmtL (l : Dly) : List UInt8 := Lib.itoa l.ck ++ Lib.joinTail [32] (l.tk.map tkT)
theorem fmt_join (l : Dly) : Lib.join (fmtX l) [32] = fmtL l := Lib.join_cons _ _ _
theorem itoa_len {n : Int} (h : In64 n) : (Lib.itoa n).length ≤ 21 := Lib.itoa_length_le n h.1 h.2
theorem tkT_len {n : Int} (h : In64 n) : (tkT n).length ≤ 21 := by
  unfold tkT
  split
  · simp
  · exact itoa_len h
theorem joinTail_len : ∀ {r : List (List UInt8)}, (∀ y ∈ r, y.length ≤ 21) → (Lib.joinTail [32] r).length ≤ 22 * r.length
  | [], _ => Nat.le_refl _
  | y :: r, h => by
    have h1 := h y (by simp)
    have h2 := joinTail_len (r := r) fun z hz => h z (by simp [hz])
    show ([32] ++ y ++ Lib.joinTail [32] r).length ≤ _
    simp only [List.length_append, List.length_cons, List.length_nil]
    omega
theorem tks_len {l : List Int} (h : ∀ n ∈ l, In64 n) : (Lib.joinTail [32] (l.map tkT)).length ≤ 22 * l.length := by
  have := joinTail_len (r := l.map tkT) fun y hy => by obtain ⟨n, hn, rfl⟩ := List.mem_map.1 hy; exact tkT_len (h n hn)
  rw [List.length_map] at this; exact this
theorem Lib.joinTail_take_succ_map {l : List Int} {k : Nat} {y : Int} (h : l[k]? = some y) : Lib.joinTail [32] ((l.take (k + 1)).map tkT) = Lib.joinTail [32] ((l.take k).map tkT) ++ (32 :: tkT y) := by
  have h2 : (l.map tkT)[k]? = some (tkT y) := by rw [List.getElem?_map, h]; rfl
  have := Lib.joinTail_take_succ [32] (l.map tkT) k (tkT y) h2
  rw [List.map_take, List.map_take, this, List.append_assoc]; rfl
theorem itoa_p (n : Int) (h : In64 n) : PCG Tryz.prog GW 123 [.v (.int .i64 n)] (.v (.string (mkB (Lib.itoa n)))) := by
  intro w ok vs hG hL
  match vs, hL with
  | [v], ⟨h1, _⟩ =>
    obtain rfl := Rep.v_eq h1
    refine (Tryz.strconv_Itoa n h.1 h.2 w hG.2.1).mono ?_
    rintro e w' ⟨rfl, k, os, rfl⟩
    exact ⟨_, rfl, below_grow _ _ _, .v _ rfl⟩
theorem join_p (X : List (List UInt8)) (h0 : X ≠ []) (hN : X.length ≤ 1000) (hl : (Lib.join X [32]).length ≤ 1000000) : PCG Tryz.prog GW 124 [.sl 1 ((X.map mkB).map strC), .v (.string spc)] (.v (.string (mkB (Lib.join X [32])))) := by
  intro w ok vs hG hL
  match vs, hL with
  | [v, v2], ⟨h, h2, _⟩ =>
    obtain rfl := Rep.v_eq h2
    obtain ⟨A, cap, hv, hn, hcap, hsz, hs, hrest⟩ := sl_inv h
    have hX : (X.map mkB).map (·.data.toList) = X := by
      rw [List.map_map]
      conv => rhs; rw [← List.map_id X]
      exact List.map_congr_left fun x _ => data_mkB x
    rcases hrest with e | ⟨b, off, us, hA, hb, hok, hc, hr⟩
    · exact absurd (List.map_eq_nil_iff.1 (List.map_eq_nil_iff.1 e)) h0
    · subst hA hv
      have hlen : ((X.map mkB).map strC).length = (X.map mkB).length := List.length_map _
      rw [hlen] at hn ⊢
      have hXl : (X.map mkB).length = X.length := List.length_map _
      refine (Tryz.strings_Join b off cap (X.map mkB) spc w ?_ hb (by rw [hXl]; omega) hn (by rw [hX]; show (Lib.join X [32]).length ≤ _; omega)).mono ?_
      · intro j x hj
        have q1 : ((X.map mkB).map strC)[j]? = some (strC x) := by rw [List.getElem?_map, hj]; rfl
        have q2 := hc j _ 0 _ q1 rfl
        have q3 := Rep.v_eq (hr j _ 0 _ q1 rfl)
        rw [q3, Nat.mul_one, Nat.add_zero] at q2
        exact q2
      · rintro e w' ⟨rfl, hB⟩
        rw [hX]
        exact ⟨_, rfl, hB, .v _ rfl⟩
set_option maxRecDepth 100000 in
theorem formatLaw_p (l : Dly) (h : DlyI l) (hn : l.tk.length ≤ 18) : PCG Tryz.prog GW 75 [.agg (dlyC l)] (.v (.string (mkB (fmtL l)))) := by
  obtain ⟨hck, htk⟩ := h
  have tl := tks_len htk
  have il := itoa_len hck
  refine pcg_of_awpN gw_keep Tryz.func75 rfl Tryz.ntmps75 (rs := [.tmp 2]) Tryz.results75 (by simp) fun w0 hmine hrnd hpn hG => ?_
  refine awp_seq ?_
  refine awp_region 2 mixed (by kernel_rfl) ?_
  refine rg_q (q_box rfl (by exact .inr ⟨_, rfl⟩)) ?_
  refine rg_q (q_assign (x := .d (.v _)) rfl) ?_
  refine rg_nil ?_
  refine aops_nil ?_
  change Awp _ _ _ _ _
  refine awp_seq ?_
  refine awp_region 3 mixed (by kernel_rfl) ?_
  refine rg_q (q_fieldAddr fld33_0 rfl) ?_
  refine rg_q (q_load sz3 rfl rfl) ?_
  refine rg_q (q_callG en123 (.cons rfl .nil) rfl hG (itoa_p l.ck hck)) ?_
  refine rg_nil ?_
  refine aops_one sl168 zr9 rfl rfl rfl rfl rfl rfl ?_
  refine aops_q rfl (q_assign (x := .rs _) rfl) ?_
  refine aops_nil ?_
  change Awp _ _ _ _ _
  refine awp_seq ?_
  refine awp_seq ?_
  refine awp_region 4 mixed (by kernel_rfl) ?_
  refine rg_q (q_fieldAddr fld33_1 rfl) ?_
  refine rg_q (q_load sz31 rfl rfl) ?_
  refine rg_q (q_len isl31 rfl (by exact len_map _ _)) ?_
  refine rg_q (q_move (x := .d (.v _)) rfl) ?_
  refine rg_nil ?_
  refine aops_nil ?_
  change Awp _ _ _ _ _
  refine awp_len (t := 11) rfl (fun hl11 => ?_)
  (try simp only [List.length_map] at hl11)
  refine awp_block ?_
  refine awp_loopH [3, 5, 13, 14, 15, 16, 17, 18, 19, 20, 21, 22, 23, 24, 25, 26, 27, 9] [9] (α := Nat) (fun k => [(13, T.i (k : Int)), (3, .rs 9)]) (fun k => [(9, .row 9 1 ((mkB (Lib.itoa l.ck) :: (l.tk.take k).map fun n => mkB (tkT n)).map strC))]) (fun k => k ≤ l.tk.length) (fun k => l.tk.length - k) 0 (Nat.zero_le _) ?_ ?_
  · exact le_head (ms := [9]) (by repeat (exact Out.refl _)) ⟨(by rfl), (by rfl), trivial⟩ ⟨(by rfl), trivial⟩ rfl rfl rfl rfl
  ·
    intro k hk
    refine awp_seq ?_
    refine awp_region 1 mixed (by kernel_rfl) ?_
    refine rg_q (q_lss rfl rfl) ?_
    refine rg_nil ?_
    refine aops_nil ?_
    change Awp _ _ _ _ _
    refine awp_seq ?_
    refine awp_cond rfl (fun hc3 => ?_) (fun hc3 => ?_)
    ·
      (try simp only [decide_eq_true_eq, decide_eq_false_iff_not, Bool.and_eq_true, Bool.or_eq_true, Bool.and_eq_false_iff, Bool.or_eq_false_iff, Bool.not_eq_true', Bool.not_eq_false', Bool.not_true, Bool.not_false, bif_and, bif_or, Bool.not_not, ne_eq, Decidable.not_not, not_true_eq_false, not_false_eq_true, Int.not_le, Int.not_lt] at hc3)
      have hlt : k < l.tk.length := by omega
      obtain ⟨y, hx⟩ : ∃ y, l.tk[k]? = some y := ⟨_, List.getElem?_eq_getElem hlt⟩
      have hyi := htk y (List.mem_of_getElem? hx)
      have hln : (l.tk.take k).length ≤ 18 := by rw [List.length_take]; omega
      have hsk0 : ((mkB (Lib.itoa l.ck) :: (l.tk.take (k + 1)).map fun n => mkB (tkT n)).map strC) = ((mkB (Lib.itoa l.ck) :: (l.tk.take k).map fun n => mkB (tkT n)).map strC) ++ [strC (mkB (tkT y))] := by
        rw [List.take_succ_eq_append_getElem hlt, (List.getElem?_eq_some_iff.1 hx).2]; simp
      refine awp_skip ?_
      change Awp _ _ _ _ _
      refine awp_seq ?_
      refine awp_block ?_
      refine awp_seq ?_
      refine awp_region 3 mixed (by kernel_rfl) ?_
      refine rg_q (q_indexAddr sl31 rfl rfl (by omega) (map_at (by omega) hx)) ?_
      refine rg_q (q_load sz3 rfl rfl) ?_
      refine rg_q (q_assign (x := .d (.v _)) rfl) ?_
      refine rg_nil ?_
      refine aops_nil ?_
      change Awp _ _ _ _ _
      refine awp_seq ?_
      refine awp_region 2 mixed (by kernel_rfl) ?_
      refine rg_q (q_move (x := .d (.v _)) rfl) ?_
      refine rg_q (q_call en120 (.cons rfl .nil) rfl (sends_p _)) ?_
      refine rg_nil ?_
      refine aops_nil ?_
      change Awp _ _ _ _ _
      refine awp_cond rfl (fun hc5 => ?_) (fun hc5 => ?_)
      ·
        (try simp only [decide_eq_true_eq, decide_eq_false_iff_not, Bool.and_eq_true, Bool.or_eq_true, Bool.and_eq_false_iff, Bool.or_eq_false_iff, Bool.not_eq_true', Bool.not_eq_false', Bool.not_true, Bool.not_false, bif_and, bif_or, Bool.not_not, ne_eq, Decidable.not_not, not_true_eq_false, not_false_eq_true, Int.not_le, Int.not_lt] at hc5)
        have hsk : ((mkB (Lib.itoa l.ck) :: (l.tk.take (k + 1)).map fun n => mkB (tkT n)).map strC) = ((mkB (Lib.itoa l.ck) :: (l.tk.take k).map fun n => mkB (tkT n)).map strC) ++ [[.v (.string (mkB (Lib.itoa y)))]] := by rw [hsk0]; unfold tkT; rw [if_neg (by omega)]; rfl
        refine awp_region 4 mixed (by kernel_rfl) ?_
        refine rg_q (q_move (x := .rs _) rfl) ?_
        refine rg_q (q_move (x := .d (.v _)) rfl) ?_
        refine rg_q (q_callG en123 (.cons rfl .nil) rfl hG (itoa_p y hyi)) ?_
        refine rg_q (q_buildSlice sl168 zr9 rfl rfl (by decide) (.cons rfl (by exact .inl rfl) .nil) ⟨rfl, rfl, trivial⟩ rfl (by decide) rfl) ?_
        refine rg_nil ?_
        refine aops_append sl168 zr9 by9 rfl (by decide) rfl rfl rfl rfl (by (try simp only [List.length_map, List.length_append, List.length_cons, List.length_nil]); omega) (by (try simp only [List.length_map, List.length_append, List.length_cons, List.length_nil]); omega) rfl rfl ?_
        refine aops_q rfl (q_assign (x := .rs _) rfl) ?_
        refine aops_nil ?_
        change Awp _ _ _ _ _
        refine awp_region 2 mixed (by kernel_rfl) ?_
        refine rg_q (q_add rfl rfl (In64.mk (by omega) (by omega))) ?_
        refine rg_q (q_move (x := .d (.v _)) rfl) ?_
        refine rg_nil ?_
        refine aops_nil ?_
        refine ⟨k + 1, by omega, by omega, ?_⟩
        exact le_head (ms := [9]) (by repeat (first | exact Out.head rfl rfl | (refine Out.put ?_ rfl) | (refine Out.site ?_ rfl) | (refine Out.killS ?_ rfl))) ⟨(by rfl), (by rfl), trivial⟩ ⟨(by (show Site.row 9 1 (_ ++ [_]) = Site.row 9 1 _; rw [hsk]; rfl)), trivial⟩ rfl rfl rfl rfl
      ·
        (try simp only [decide_eq_true_eq, decide_eq_false_iff_not, Bool.and_eq_true, Bool.or_eq_true, Bool.and_eq_false_iff, Bool.or_eq_false_iff, Bool.not_eq_true', Bool.not_eq_false', Bool.not_true, Bool.not_false, bif_and, bif_or, Bool.not_not, ne_eq, Decidable.not_not, not_true_eq_false, not_false_eq_true, Int.not_le, Int.not_lt] at hc5)
        have hsk : ((mkB (Lib.itoa l.ck) :: (l.tk.take (k + 1)).map fun n => mkB (tkT n)).map strC) = ((mkB (Lib.itoa l.ck) :: (l.tk.take k).map fun n => mkB (tkT n)).map strC) ++ [[.v (.string (mkB [45]))]] := by rw [hsk0]; unfold tkT; rw [if_pos (by omega)]; rfl
        refine awp_region 2 mixed (by kernel_rfl) ?_
        refine rg_q (q_move (x := .rs _) rfl) ?_
        refine rg_q (q_buildSlice sl168 zr9 rfl rfl (by decide) (.cons rfl (by exact .inl rfl) .nil) ⟨rfl, rfl, trivial⟩ rfl (by decide) rfl) ?_
        refine rg_nil ?_
        refine aops_append sl168 zr9 by9 rfl (by decide) rfl rfl rfl rfl (by (try simp only [List.length_map, List.length_append, List.length_cons, List.length_nil]); omega) (by (try simp only [List.length_map, List.length_append, List.length_cons, List.length_nil]); omega) rfl rfl ?_
        refine aops_q rfl (q_assign (x := .rs _) rfl) ?_
        refine aops_nil ?_
        change Awp _ _ _ _ _
        refine awp_region 2 mixed (by kernel_rfl) ?_
        refine rg_q (q_add rfl rfl (In64.mk (by omega) (by omega))) ?_
        refine rg_q (q_move (x := .d (.v _)) rfl) ?_
        refine rg_nil ?_
        refine aops_nil ?_
        refine ⟨k + 1, by omega, by omega, ?_⟩
        exact le_head (ms := [9]) (by repeat (first | exact Out.head rfl rfl | (refine Out.put ?_ rfl) | (refine Out.site ?_ rfl) | (refine Out.killS ?_ rfl))) ⟨(by rfl), (by rfl), trivial⟩ ⟨(by (show Site.row 9 1 (_ ++ [_]) = Site.row 9 1 _; rw [hsk]; rfl)), trivial⟩ rfl rfl rfl rfl
    ·
      (try simp only [decide_eq_true_eq, decide_eq_false_iff_not, Bool.and_eq_true, Bool.or_eq_true, Bool.and_eq_false_iff, Bool.or_eq_false_iff, Bool.not_eq_true', Bool.not_eq_false', Bool.not_true, Bool.not_false, bif_and, bif_or, Bool.not_not, ne_eq, Decidable.not_not, not_true_eq_false, not_false_eq_true, Int.not_le, Int.not_lt] at hc3)
      have hkn : k = l.tk.length := by omega
      subst hkn
      have hrow : ((mkB (Lib.itoa l.ck) :: (l.tk.take l.tk.length).map fun n => mkB (tkT n)).map strC) = ((fmtX l).map mkB).map strC := by rw [List.take_length]; unfold fmtX; simp only [List.map_cons, List.map_map]; rfl
      refine awp_exit ?_
      change Awp _ _ _ _ _
      refine awp_seq ?_
      refine Awp.le (le_freezeR (es := ((fmtX l).map mkB).map strC) 9 3 (by show Site.row _ _ _ = _; rw [hrow]) rfl rfl rfl hmine) ?_
      refine awp_region 3 mixed (by kernel_rfl) ?_
      refine rg_q (q_move (x := .d (.sl _ _)) rfl) ?_
      refine rg_q (q_callG en124 (.cons rfl (.cons rfl .nil)) rfl hG (join_p (fmtX l) (by unfold fmtX; simp) (by unfold fmtX; simp only [List.length_cons, List.length_map]; omega) (by rw [fmt_join]; unfold fmtL; rw [List.length_append]; omega))) ?_
      refine rg_q (q_assign (x := .d (.v _)) rfl) ?_
      refine rg_nil ?_
      refine aops_nil ?_
      change Awp _ _ _ _ _
      refine awp_ret ?_
      refine ⟨_, (.cons (.tmp (by exact .d _)) .nil), ?_⟩
      rw [fmt_join]; rfl
set_option maxRecDepth 100000 in
theorem rformatLaw_p (l : Dly) (h : DlyI l) (hn : l.tk.length ≤ 18) : PC Tryz.prog 78 [.agg (dlyC l)] (.v (.string (mkB (fmtL l)))) := by
  obtain ⟨hck, htk⟩ := h
  have il := itoa_len hck
  refine pc_of_awp Tryz.func78 rfl Tryz.ntmps78 (rs := [.tmp 2]) Tryz.results78 (by simp) fun w0 => ?_
  refine awp_seq ?_
  refine awp_region 2 mixed (by kernel_rfl) ?_
  refine rg_q (q_box rfl (by exact .inr ⟨_, rfl⟩)) ?_
  refine rg_q (q_assign (x := .d (.v _)) rfl) ?_
  refine rg_nil ?_
  refine aops_nil ?_
  change Awp _ _ _ _ _
  refine awp_seq ?_
  refine awp_region 4 mixed (by kernel_rfl) ?_
  refine rg_q (q_fieldAddr fld33_0 rfl) ?_
  refine rg_q (q_load sz3 rfl rfl) ?_
  refine rg_q (q_call en129 (.cons rfl .nil) rfl (decimal_p l.ck hck)) ?_
  refine rg_q (q_assign (x := .d (.v _)) rfl) ?_
  refine rg_nil ?_
  refine aops_nil ?_
  change Awp _ _ _ _ _
  refine awp_seq ?_
  refine awp_seq ?_
  refine awp_region 1 mixed (by kernel_rfl) ?_
  refine rg_q (q_assign (x := .d (.v _)) rfl) ?_
  refine rg_nil ?_
  refine aops_nil ?_
  change Awp _ _ _ _ _
  refine awp_block ?_
  refine awp_loopH [3, 4, 8, 9, 10, 11, 12, 13, 14, 15, 16, 17, 18, 19, 20, 21, 22, 23, 24, 25, 26, 27, 28, 29, 30, 31] [] (α := Nat) (fun k => [(4, T.i (k : Int)), (3, .d (.v (.string (mkB (Lib.itoa l.ck ++ Lib.joinTail [32] ((l.tk.take k).map tkT))))))]) (fun k => []) (fun k => k ≤ l.tk.length) (fun k => l.tk.length - k) 0 (Nat.zero_le _) ?_ ?_
  · exact le_head (ms := []) (by repeat (exact Out.refl _)) ⟨(by rfl), (by ((show T.d (.v (.string _)) = _; simp [Lib.joinTail]; done))), trivial⟩ trivial rfl rfl rfl rfl
  ·
    intro k hk
    refine awp_seq ?_
    refine awp_seq ?_
    refine awp_region 5 mixed (by kernel_rfl) ?_
    refine rg_q (q_move (x := .d (.v _)) rfl) ?_
    refine rg_q (q_fieldAddr fld33_1 rfl) ?_
    refine rg_q (q_load sz31 rfl rfl) ?_
    refine rg_q (q_len isl31 rfl (by exact len_map _ _)) ?_
    refine rg_q (q_lss rfl rfl) ?_
    refine rg_nil ?_
    refine aops_nil ?_
    change Awp _ _ _ _ _
    refine awp_len (t := 10) rfl (fun hl10 => ?_)
    (try simp only [List.length_map] at hl10)
    refine awp_cond rfl (fun hc3 => ?_) (fun hc3 => ?_)
    ·
      (try simp only [decide_eq_true_eq, decide_eq_false_iff_not, Bool.and_eq_true, Bool.or_eq_true, Bool.and_eq_false_iff, Bool.or_eq_false_iff, Bool.not_eq_true', Bool.not_eq_false', Bool.not_true, Bool.not_false, bif_and, bif_or, Bool.not_not, ne_eq, Decidable.not_not, not_true_eq_false, not_false_eq_true, Int.not_le, Int.not_lt] at hc3)
      have hlt : k < l.tk.length := by omega
      obtain ⟨y, hx⟩ : ∃ y, l.tk[k]? = some y := ⟨_, List.getElem?_eq_getElem hlt⟩
      have hyi := htk y (List.mem_of_getElem? hx)
      have hyl := itoa_len hyi
      have tl := tks_len (l := l.tk.take k) fun n hn => htk n (List.mem_of_mem_take hn)
      rw [List.length_take] at tl
      have hsz := mkB_size (Lib.itoa l.ck ++ Lib.joinTail [32] ((l.tk.take k).map tkT))
      rw [List.length_append] at hsz
      have hsy := mkB_size (Lib.itoa y)
      have hs1 : (⟨#[32]⟩ : ByteArray).size = 1 := rfl
      have hs2 : (⟨#[32, 45]⟩ : ByteArray).size = 2 := rfl
      have hs3 : (mkB (Lib.itoa l.ck ++ Lib.joinTail [32] ((l.tk.take k).map tkT)) ++ ⟨#[32]⟩).size = (mkB (Lib.itoa l.ck ++ Lib.joinTail [32] ((l.tk.take k).map tkT))).size + 1 := by rw [ByteArray.size_append]; rfl
      have hsk0 : (Lib.itoa l.ck ++ Lib.joinTail [32] ((l.tk.take (k + 1)).map tkT)) = (Lib.itoa l.ck ++ Lib.joinTail [32] ((l.tk.take k).map tkT)) ++ (32 :: tkT y) := by rw [Lib.joinTail_take_succ_map hx, List.append_assoc]
      refine awp_skip ?_
      change Awp _ _ _ _ _
      refine awp_seq ?_
      refine awp_block ?_
      refine awp_seq ?_
      refine awp_region 6 mixed (by kernel_rfl) ?_
      refine rg_q (q_fieldAddr fld33_1 rfl) ?_
      refine rg_q (q_load sz31 rfl rfl) ?_
      refine rg_q (q_move (x := .d (.v _)) rfl) ?_
      refine rg_q (q_indexAddr sl31 rfl rfl (by omega) (map_at (by omega) hx)) ?_
      refine rg_q (q_load sz3 rfl rfl) ?_
      refine rg_q (q_lss rfl rfl) ?_
      refine rg_nil ?_
      refine aops_nil ?_
      change Awp _ _ _ _ _
      refine awp_cond rfl (fun hc5 => ?_) (fun hc5 => ?_)
      ·
        (try simp only [decide_eq_true_eq, decide_eq_false_iff_not, Bool.and_eq_true, Bool.or_eq_true, Bool.and_eq_false_iff, Bool.or_eq_false_iff, Bool.not_eq_true', Bool.not_eq_false', Bool.not_true, Bool.not_false, bif_and, bif_or, Bool.not_not, ne_eq, Decidable.not_not, not_true_eq_false, not_false_eq_true, Int.not_le, Int.not_lt] at hc5)
        have hst : mkB (Lib.itoa l.ck ++ Lib.joinTail [32] ((l.tk.take k).map tkT)) ++ mkB [32, 45] = mkB (Lib.itoa l.ck ++ Lib.joinTail [32] ((l.tk.take (k + 1)).map tkT)) := by rw [mkB_app, hsk0]; unfold tkT; rw [if_pos hc5]
        refine awp_region 3 mixed (by kernel_rfl) ?_
        refine rg_q (q_move (x := .d (.v _)) rfl) ?_
        refine rg_q (q_adds rfl rfl (by omega)) ?_
        refine rg_q (q_assign (x := .d (.v _)) rfl) ?_
        refine rg_nil ?_
        refine aops_nil ?_
        change Awp _ _ _ _ _
        refine awp_region 3 mixed (by kernel_rfl) ?_
        refine rg_q (q_move (x := .d (.v _)) rfl) ?_
        refine rg_q (q_add rfl rfl (In64.mk (by omega) (by omega))) ?_
        refine rg_q (q_assign (x := .d (.v _)) rfl) ?_
        refine rg_nil ?_
        refine aops_nil ?_
        refine ⟨k + 1, by omega, by omega, ?_⟩
        exact le_head (ms := []) (by repeat (first | exact Out.head rfl rfl | (refine Out.put ?_ rfl))) ⟨(by rfl), (by (exact congrArg (fun b => T.d (.v (.string b))) hst)), trivial⟩ trivial rfl rfl rfl rfl
      ·
        (try simp only [decide_eq_true_eq, decide_eq_false_iff_not, Bool.and_eq_true, Bool.or_eq_true, Bool.and_eq_false_iff, Bool.or_eq_false_iff, Bool.not_eq_true', Bool.not_eq_false', Bool.not_true, Bool.not_false, bif_and, bif_or, Bool.not_not, ne_eq, Decidable.not_not, not_true_eq_false, not_false_eq_true, Int.not_le, Int.not_lt] at hc5)
        have hst : mkB (Lib.itoa l.ck ++ Lib.joinTail [32] ((l.tk.take k).map tkT)) ++ mkB [32] ++ mkB (Lib.itoa y) = mkB (Lib.itoa l.ck ++ Lib.joinTail [32] ((l.tk.take (k + 1)).map tkT)) := by rw [mkB_app, mkB_app, hsk0]; unfold tkT; rw [if_neg (by omega), List.append_assoc]; rfl
        refine awp_region 10 mixed (by kernel_rfl) ?_
        refine rg_q (q_move (x := .d (.v _)) rfl) ?_
        refine rg_q (q_adds rfl rfl (by omega)) ?_
        refine rg_q (q_fieldAddr fld33_1 rfl) ?_
        refine rg_q (q_load sz31 rfl rfl) ?_
        refine rg_q (q_move (x := .d (.v _)) rfl) ?_
        refine rg_q (q_indexAddr sl31 rfl rfl (by omega) (map_at (by omega) hx)) ?_
        refine rg_q (q_load sz3 rfl rfl) ?_
        refine rg_q (q_call en129 (.cons rfl .nil) rfl (decimal_p y hyi)) ?_
        refine rg_q (q_adds rfl rfl (by omega)) ?_
        refine rg_q (q_assign (x := .d (.v _)) rfl) ?_
        refine rg_nil ?_
        refine aops_nil ?_
        change Awp _ _ _ _ _
        refine awp_region 3 mixed (by kernel_rfl) ?_
        refine rg_q (q_move (x := .d (.v _)) rfl) ?_
        refine rg_q (q_add rfl rfl (In64.mk (by omega) (by omega))) ?_
        refine rg_q (q_assign (x := .d (.v _)) rfl) ?_
        refine rg_nil ?_
        refine aops_nil ?_
        refine ⟨k + 1, by omega, by omega, ?_⟩
        exact le_head (ms := []) (by repeat (first | exact Out.head rfl rfl | (refine Out.put ?_ rfl))) ⟨(by rfl), (by (exact congrArg (fun b => T.d (.v (.string b))) hst)), trivial⟩ trivial rfl rfl rfl rfl
    ·
      (try simp only [decide_eq_true_eq, decide_eq_false_iff_not, Bool.and_eq_true, Bool.or_eq_true, Bool.and_eq_false_iff, Bool.or_eq_false_iff, Bool.not_eq_true', Bool.not_eq_false', Bool.not_true, Bool.not_false, bif_and, bif_or, Bool.not_not, ne_eq, Decidable.not_not, not_true_eq_false, not_false_eq_true, Int.not_le, Int.not_lt] at hc3)
      have hkn : k = l.tk.length := by omega
      have hfin : (Lib.itoa l.ck ++ Lib.joinTail [32] ((l.tk.take k).map tkT)) = fmtL l := by rw [hkn, List.take_length]; rfl
      refine awp_exit ?_
      change Awp _ _ _ _ _
      refine awp_seq ?_
      refine awp_region 2 mixed (by kernel_rfl) ?_
      refine rg_q (q_move (x := .d (.v _)) rfl) ?_
      refine rg_q (q_assign (x := .d (.v _)) rfl) ?_
      refine rg_nil ?_
      refine aops_nil ?_
      change Awp _ _ _ _ _
      refine awp_ret ?_
      refine ⟨_, (.cons (.tmp (by exact .d _)) .nil), ?_⟩
      rw [hfin]; rfl
end Go.Proofs.YtgeieocphgnipaaGreatDoor.Am.M
