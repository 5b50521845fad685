/- Contracts over the abstract machine: package law: numbers, texts. Conditions: none. -/
import Derived.Test.YtgeieocphgnipaaGreatDoorG4
import Derived.Test.YtgeieocphgnipaaGreatDoorShelf
import Derived.WalkKit
import Derived.BigCall
import Derived.Lib.AtoiErrMem
import Derived.Lib.ItoaMem
set_option linter.unusedVariables false
set_option linter.unusedSimpArgs false
-- mini
namespace Go.Proofs.YtgeieocphgnipaaGreatDoor.Am.M
open Go

/-- What the library's texts read of the world: tables and errors. -/
def GW (w : World) : Prop := (∃ m, w.cell? ⟨1, 0, none⟩ = some (.int .i64 m)) ∧ Lib.TabIs Tryz.prog w "internal/strconv.uint64pow10" .u64 Lib.pow10Tab ∧ (∃ tp p, w.var? Tryz.prog "strconv.ErrSyntax" = some #[.iface tp p]) ∧ ∃ tp p, w.var? Tryz.prog "strconv.ErrRange" = some #[.iface tp p]
theorem var_keep {P : Program} {w w' : World} {name : String} {cs : Array Value} (hE : Ext w w') (h : w.var? P name = some cs) : w'.var? P name = some cs := by
  unfold World.var? at *
  cases hg : P.globalNamed name with
  | none => simp [hg] at h
  | some g =>
    simp only [hg, Option.bind_some] at h ⊢
    have hlt : g < w.heap.size := by
      rcases Nat.lt_or_ge g w.heap.size with h' | h'
      · exact h'
      · rw [Array.getElem?_eq_none h'] at h; simp at h
    rw [hE.block g hlt]
    exact h
theorem gw_keep : GKeep GW := fun w w' ⟨⟨m, h1⟩, h2, ⟨t1, p1, h3⟩, t2, p2, h4⟩ hE => ⟨⟨m, hE.cell h1⟩, var_keep hE h2, ⟨t1, p1, var_keep hE h3⟩, t2, p2, var_keep hE h4⟩
theorem below_grow (w : World) (k : Nat) (os : Array Obj) : Ext w (Sort.grow (w.drewN k) os) :=
  ⟨rfl, rfl, rfl, by show _ ≤ (w.heap ++ os).size; rw [Array.size_append]; omega, fun i hi => by show (w.heap ++ os)[i]? = _; rw [Array.getElem?_append_left hi]⟩
def numI (s : ByteArray) : Int × Bool :=
  match Lib.atoiAll s.data.toList with
  | .ok v => (v, decide (Lib.itoa v = s.toList) && decide (((Lib.trimPrefix s.data.toList [45]).length : Int) ≤ 9))
  | .range => (Lib.atoiSat s.data.toList, false)
  | _ => (0, false)
open Go.RowKit in
set_option maxRecDepth 100000 in
theorem number_c (s : ByteArray) (hs : s.size ≤ 281474976710656) (w : World) (hG : GW w) : Calls Tryz.prog 126 #[.string s] w fun e w' => e = .returned (.tuple #[.int .i64 (numI s).1, .bool (numI s).2]) ∧ Ext w w' := by
  have hG0 := hG
  obtain ⟨-, hT, ⟨t1, p1, h3⟩, t2, p2, h4⟩ := hG
  cases h : Lib.atoiAll s.data.toList
  case ok v =>
    have hn : numI s = (v, decide (Lib.itoa v = s.toList) && decide (((Lib.trimPrefix s.data.toList [45]).length : Int) ≤ 9)) := by unfold numI; rw [h]
    have hb := Lib.atoiAll_bounds h
    rw [hn]
    go_enter Tryz.func126, Tryz.ntmps126
    go_wp2_with (go_at_call 155; refine (Tryz.strconv_Atoi_ok s (by omega) v h _).mono ?_)
    rintro e w1 ⟨rfl, hw⟩
    have hE : Ext w w1 := by
      rcases hw with rfl | ⟨t, rfl⟩
      · exact Ext.refl _
      · exact Lib.bytesWorld_below _ _ _
    have hT1 := (gw_keep _ _ hG0 hE).2.1
    go_wp2_with (first | (go_at_call 123; refine (Tryz.strconv_Itoa v (by omega) (by omega) _ hT1).mono ?_; rintro e w2 ⟨rfl, kk, os, rfl⟩) | (go_at_call 156; refine (Tryz.strings_TrimPrefix s _ _).mono ?_; rintro e w2 ⟨rfl, rfl⟩))
    · rename_i hq
      go_ret2
      exact ⟨by rw [decide_eq_true hq]; rfl, hE.trans (below_grow _ _ _)⟩
    · rename_i hq
      go_ret2
      exact ⟨by rw [decide_eq_false hq]; rfl, hE.trans (below_grow _ _ _)⟩
  case range =>
    have hn : numI s = (Lib.atoiSat s.data.toList, false) := by unfold numI; rw [h]
    rw [hn]
    go_enter Tryz.func126, Tryz.ntmps126
    go_wp2_with (go_at_call 155; refine (Tryz.strconv_Atoi_range_var s hs h t2 p2 _ h4).mono ?_)
    rintro e w1 ⟨N, rfl, -, -, hb⟩
    go_wp2
    go_ret2
    exact ⟨rfl, hb⟩
  · have hn : numI s = (0, false) := by unfold numI; rw [h]
    rw [hn]
    go_enter Tryz.func126, Tryz.ntmps126
    go_wp2_with (go_at_call 155; refine (Tryz.strconv_Atoi_syntax_var s hs h t1 p1 _ h3).mono ?_)
    rintro e w1 ⟨N, rfl, -, -, hb⟩
    go_wp2
    go_ret2
    exact ⟨rfl, hb⟩
theorem number_p (s : ByteArray) (hs : s.size ≤ 281474976710656) : PCG Tryz.prog GW 126 [.v (.string s)] (.tup [.v (.int .i64 (numI s).1), .v (.bool (numI s).2)]) := by
  intro w ok vs hG hL
  match vs, hL with
  | [v], ⟨h, _⟩ =>
    obtain rfl := Rep.v_eq h
    refine (number_c s hs w hG).mono ?_
    rintro e w' ⟨rfl, hE⟩
    exact ⟨_, rfl, hE, .tup _ [_, _] rfl fun j d v h1 h2 => by
      match j, h1, h2 with
      | 0, h1, h2 => cases h1; cases h2; exact .v _ rfl
      | 1, h1, h2 => cases h1; cases h2; exact .v _ rfl⟩
def strC (s : ByteArray) : List D := [.v (.string s)]
def spc : ByteArray := ⟨#[32]⟩
/-- The pieces of a text between blanks. -/
def pcs (s : ByteArray) : List ByteArray := Lib.splitB spc 0 (Lib.countB s spc) s
theorem split_p (s : ByteArray) (hs : s.size ≤ 1000000) : PCG Tryz.prog GW 125 [.v (.string s), .v (.string spc)] (.sl 1 ((pcs s).map strC)) := by
  intro w ok vs hG hL
  match vs, hL with
  | [v, v2], ⟨h, h2, _⟩ =>
    obtain rfl := Rep.v_eq h
    obtain rfl := Rep.v_eq h2
    obtain ⟨⟨m, hm⟩, -⟩ := hG
    refine (Tryz.strings_Split s spc m w (by omega) hm (by decide)).mono ?_
    rintro e w' ⟨rfl, rfl⟩
    have hlen : ((pcs s).map strC).length = Lib.countB s spc + 1 := by rw [List.length_map]; exact Lib.splitB_all spc (by decide) 0 _ s rfl
    have hle := Lib.countB_le spc (by decide) s.size s (Nat.le_refl _)
    refine ⟨_, rfl, (Ext.refl w).alloc _, ?_⟩
    rw [← hlen]
    have at_ : ∀ (i : Nat) (e : List D) (j : Nat) (d : D), ((pcs s).map strC)[i]? = some e → e[j]? = some d → ∃ p, (pcs s)[i]? = some p ∧ j = 0 ∧ d = .v (.string p) := by
      intro i e j d h1 h2
      rw [List.getElem?_map, Option.map_eq_some_iff] at h1
      obtain ⟨p, hp, rfl⟩ := h1
      match j, h2 with
      | 0, h2 => cases h2; exact ⟨p, hp, rfl, rfl⟩
    refine .sl 1 _ w.heap.size 0 _ (fun i _ => .string ((pcs s).getD i ⟨#[]⟩)) (by show _ < (w.heap.push _).size; rw [Array.size_push]; omega) (.inr (Nat.le_refl _)) (Nat.le_refl _) (by rw [hlen]; unfold maxLen; omega) ?_ ?_ ?_ ?_
    · intro i e h1
      rw [List.getElem?_map, Option.map_eq_some_iff] at h1
      obtain ⟨p, hp, rfl⟩ := h1
      rfl
    · intro i e j d h1 h2
      obtain ⟨p, hp, rfl, rfl⟩ := at_ i e j d h1 h2
      rfl
    · intro i e j d h1 h2
      obtain ⟨p, hp, rfl, rfl⟩ := at_ i e j d h1 h2
      unfold World.cell?
      show (match (w.heap.push _)[w.heap.size]? with | some (.cells vals _ _) => _ | _ => _) = _
      rw [Array.getElem?_push_size]
      simp only [Nat.zero_add, Nat.mul_one, Nat.add_zero]
      show ((((pcs s).map Value.string).toArray)[i]?) = _
      rw [List.getElem?_toArray, List.getElem?_map, hp, List.getD_eq_getElem?_getD, hp]; rfl
    · intro i e j d h1 h2
      obtain ⟨p, hp, rfl, rfl⟩ := at_ i e j d h1 h2
      show Rep _ _ _ (Value.string ((pcs s).getD i ⟨#[]⟩))
      rw [List.getD_eq_getElem?_getD, hp]
      exact .v _ rfl
theorem pcs_len (s : ByteArray) : 1 ≤ (pcs s).length ∧ (pcs s).length ≤ s.size + 1 := by
  have h : (pcs s).length = Lib.countB s spc + 1 := Lib.splitB_all spc (by decide) 0 _ s rfl
  have hle := Lib.countB_le spc (by decide) s.size s (Nat.le_refl _)
  omega
theorem piece_le (sep : ByteArray) : ∀ (k : Nat) (s p : ByteArray), p ∈ Lib.splitB sep 0 k s → p.size ≤ s.size
  | 0, s, p, h => by rw [List.mem_singleton.1 h]; exact Nat.le_refl _
  | k + 1, s, p, h => by
    unfold Lib.splitB at h
    split at h
    · rw [List.mem_singleton.1 h]; exact Nat.le_refl _
    · rcases List.mem_cons.1 h with rfl | h
      · rw [ByteArray.size_extract]; omega
      · have := piece_le sep k _ p h
        rw [ByteArray.size_extract] at this
        omega
theorem pcs_le {s p : ByteArray} (h : p ∈ pcs s) : p.size ≤ s.size := piece_le spc _ s p h

def dsh : ByteArray := ⟨#[45]⟩
/-- The ticks of a piece. -/
def tkS (x : ByteArray) : Option Int := if x = dsh then some (-1) else if (numI x).2 = true ∧ 0 ≤ (numI x).1 then some (numI x).1 else none
def tkV (x : ByteArray) : Int := (tkS x).getD 0
def pc0 (s : ByteArray) : ByteArray := (pcs s).getD 0 ⟨#[]⟩
def pcr (s : ByteArray) : List ByteArray := ((pcs s).take (pcs s).length).drop 1
def prsD (s : ByteArray) : Dly := ⟨(numI (pc0 s)).1, (pcr s).map tkV⟩
def prsR (s : ByteArray) : Dly × Int := if (numI (pc0 s)).2 = false ∨ (∃ x ∈ pcr s, tkS x = none) then (⟨0, []⟩, 7) else if (ckLaw (prsD s)).2 ≠ 0 then (⟨0, []⟩, (ckLaw (prsD s)).2) else (prsD s, 0)
theorem pcr_len (s : ByteArray) : (pcr s).length ≤ s.size := by
  have := pcs_len s
  unfold pcr
  rw [List.length_drop, List.length_take]; omega
theorem pcr_mem {s x : ByteArray} (h : x ∈ pcr s) : x ∈ pcs s := List.mem_of_mem_take (List.mem_of_mem_drop h)
set_option maxRecDepth 100000 in
theorem parseLaw_p (s : ByteArray) (hs : s.size ≤ 100000) : PCG Tryz.prog GW 76 [.v (.string (s))] (.tup [.agg (dlyC (prsR s).1), .v (.int .i64 ((prsR s).2))]) := by
  obtain ⟨pl1, pl2⟩ := pcs_len s
  have prl := pcr_len s
  obtain ⟨x0, hx0⟩ : ∃ x0, (pcs s)[0]? = some x0 := ⟨_, List.getElem?_eq_getElem (by omega)⟩
  have hp0 : pc0 s = x0 := by unfold pc0; rw [List.getD_eq_getElem?_getD, hx0]; rfl
  subst hp0
  have hs0 := pcs_le (List.mem_of_getElem? hx0)
  refine pcg_of_awpN gw_keep Tryz.func76 rfl Tryz.ntmps76 (rs := [.cell 2 33, .tmp 3]) Tryz.results76 (by simp) fun w0 hmine hrnd hpn hG => ?_
  refine awp_seq ?_
  refine awp_region 0 mixed (by kernel_rfl) ?_
  refine rg_nil ?_
  refine aops_alloc zr33 rfl rfl rfl ?_
  refine aops_q rfl (q_assign (x := .d (.v _)) rfl) ?_
  refine aops_nil ?_
  change Awp _ _ _ _ _
  refine awp_seq ?_
  refine awp_region 3 mixed (by kernel_rfl) ?_
  refine rg_q (q_move (x := .d (.v _)) rfl) ?_
  refine rg_q (q_callG en125 (.cons rfl (.cons rfl .nil)) rfl hG (split_p _ (by omega))) ?_
  refine rg_q (q_assign (x := .d (.sl _ _)) rfl) ?_
  refine rg_nil ?_
  refine aops_nil ?_
  change Awp _ _ _ _ _
  refine awp_seq ?_
  refine awp_region 9 mixed (by kernel_rfl) ?_
  refine rg_q (q_move (x := .d (.sl _ _)) rfl) ?_
  refine rg_q (q_indexAddr sl168 rfl rfl (by omega) (map_at (k := 0) (by rfl) hx0)) ?_
  refine rg_q (q_load sz9 rfl rfl) ?_
  refine rg_q (q_callG en126 (.cons rfl .nil) rfl hG (number_p (pc0 s) (by omega))) ?_
  refine rg_q (q_move (x := .d (.tup _)) rfl) ?_
  refine rg_q (q_extract rfl rfl) ?_
  refine rg_q (q_extract rfl rfl) ?_
  refine rg_q (q_assign (x := .d (.v _)) rfl) ?_
  refine rg_q (q_assign (x := .d (.v _)) rfl) ?_
  refine rg_nil ?_
  refine aops_nil ?_
  change Awp _ _ _ _ _
  refine awp_seq ?_
  refine awp_seq ?_
  refine awp_region 2 mixed (by kernel_rfl) ?_
  refine rg_q (q_move (x := .d (.v _)) rfl) ?_
  refine rg_q (q_not rfl) ?_
  refine rg_nil ?_
  refine aops_nil ?_
  change Awp _ _ _ _ _
  refine awp_cond rfl (fun hc3 => ?_) (fun hc3 => ?_)
  ·
    (try simp only [decide_eq_true_eq, decide_eq_false_iff_not, Bool.and_eq_true, Bool.or_eq_true, Bool.and_eq_false_iff, Bool.or_eq_false_iff, Bool.not_eq_true', Bool.not_eq_false', Bool.not_true, Bool.not_false, bif_and, bif_or, Bool.not_not, ne_eq, Decidable.not_not, not_true_eq_false, not_false_eq_true, Int.not_le, Int.not_lt] at hc3)
    have hz : prsR s = (⟨0, []⟩, 7) := by unfold prsR; rw [if_pos (.inl (by simpa using hc3))]
    refine awp_seq ?_
    refine awp_region 1 mixed (by kernel_rfl) ?_
    refine rg_q (q_build (cs := [_, _]) pl33 zr33 rfl .nil trivial rfl) ?_
    refine rg_nil ?_
    refine aops_store sz33 rfl rfl (by exact .inr ⟨_, rfl⟩) rfl rfl (by decide) rfl ?_
    refine aops_q rfl (q_assign (x := .d (.v _)) rfl) ?_
    refine aops_nil ?_
    change Awp _ _ _ _ _
    refine Awp.le (le_upB 2 (dlyC ⟨0, []⟩) rfl (.cons (.same _) (.cons (.nil 1) .nil))) ?_
    refine awp_ret ?_
    refine ⟨_, (.cons (.cellA rfl rfl sz33 rfl) (.cons (.tmp (by exact .d _)) .nil)), ?_⟩
    rw [hz]; rfl
  ·
    (try simp only [decide_eq_true_eq, decide_eq_false_iff_not, Bool.and_eq_true, Bool.or_eq_true, Bool.and_eq_false_iff, Bool.or_eq_false_iff, Bool.not_eq_true', Bool.not_eq_false', Bool.not_true, Bool.not_false, bif_and, bif_or, Bool.not_not, ne_eq, Decidable.not_not, not_true_eq_false, not_false_eq_true, Int.not_le, Int.not_lt] at hc3)
    have hq0 : (numI (pc0 s)).2 = true := by simpa using hc3
    refine awp_skip ?_
    change Awp _ _ _ _ _
    refine awp_seq ?_
    refine awp_region 2 mixed (by kernel_rfl) ?_
    refine rg_q (q_move (x := .d (.v _)) rfl) ?_
    refine rg_q (q_build (cs := [_, _]) pl33 zr33 rfl (.cons rfl (by exact .inl rfl) .nil) ⟨⟨rfl, by decide⟩, trivial⟩ rfl) ?_
    refine rg_nil ?_
    refine aops_alloc zr33 rfl rfl rfl ?_
    refine aops_store sz33 rfl rfl (by exact .inr ⟨_, rfl⟩) rfl rfl (by decide) rfl ?_
    refine aops_nil ?_
    change Awp _ _ _ _ _
    refine awp_seq ?_
    refine awp_seq ?_
    refine Awp.le (le_ownB 7 52 1 3 1 rfl rfl rfl) ?_
    refine awp_region 4 mixed (by kernel_rfl) ?_
    refine rg_q (q_move (x := .d (.sl _ _)) rfl) ?_
    refine rg_q (q_slice sl168 rfl rfl rfl (by simp only [List.length_map]; omega) (by simp only [List.length_map]; omega) (by exact map_slice _ _ _ _)) ?_
    refine rg_q (q_len isl168 rfl (by exact len_map _ _)) ?_
    refine rg_q (q_move (x := .d (.v _)) rfl) ?_
    refine rg_nil ?_
    refine aops_nil ?_
    change Awp _ _ _ _ _
    refine awp_len (t := 27) rfl (fun hl27 => ?_)
    (try simp only [List.length_map] at hl27)
    rw [show (List.map strC (pcs s)).length = (pcs s).length from List.length_map _, show List.drop 1 (List.take (pcs s).length (pcs s)) = pcr s from rfl]
    change Awp _ _ _ _ _
    refine awp_block ?_
    refine awp_loopH [3, 6, 9, 10, 29, 30, 31, 32, 33, 34, 35, 36, 37, 38, 39, 40, 41, 42, 43, 44, 45, 46, 47, 48, 49, 50, 51, 52, 53, 54] [7, 52] (α := Nat) (fun k => [(29, T.i (k : Int))]) (fun k => [(7, .tbox [.d (.v (.int .i64 (numI (pc0 s)).1)), .rs 52]), (52, .row 3 1 (((pcr s).take k).map fun x => iC (tkV x)))]) (fun k => k ≤ (pcr s).length ∧ ∀ x ∈ (pcr s).take k, tkS x ≠ none) (fun k => (pcr s).length - k) 0 ⟨Nat.zero_le _, fun x hx => by cases hx⟩ ?_ ?_
    · exact le_head (ms := [7, 52]) (by repeat (exact Out.refl _)) ⟨(by rfl), trivial⟩ ⟨(by rfl), (by rfl), trivial⟩ rfl rfl rfl rfl
    ·
      intro k ⟨hk, hall⟩
      refine awp_seq ?_
      refine awp_region 1 mixed (by kernel_rfl) ?_
      refine rg_q (q_lss rfl rfl) ?_
      refine rg_nil ?_
      refine aops_nil ?_
      change Awp _ _ _ _ _
      refine awp_seq ?_
      refine awp_cond rfl (fun hc7 => ?_) (fun hc7 => ?_)
      ·
        (try simp only [decide_eq_true_eq, decide_eq_false_iff_not, Bool.and_eq_true, Bool.or_eq_true, Bool.and_eq_false_iff, Bool.or_eq_false_iff, Bool.not_eq_true', Bool.not_eq_false', Bool.not_true, Bool.not_false, bif_and, bif_or, Bool.not_not, ne_eq, Decidable.not_not, not_true_eq_false, not_false_eq_true, Int.not_le, Int.not_lt] at hc7)
        have hlt : k < (pcr s).length := by omega
        obtain ⟨y, hy⟩ : ∃ y, (pcr s)[k]? = some y := ⟨_, List.getElem?_eq_getElem hlt⟩
        have hys := pcs_le (pcr_mem (List.mem_of_getElem? hy))
        have hln : ((pcr s).take k).length ≤ 100000 := by rw [List.length_take]; omega
        have hsk0 : (pcr s).take (k + 1) = (pcr s).take k ++ [y] := by rw [List.take_succ_eq_append_getElem hlt, (List.getElem?_eq_some_iff.1 hy).2]
        refine awp_skip ?_
        change Awp _ _ _ _ _
        refine awp_seq ?_
        refine awp_block ?_
        refine awp_seq ?_
        refine awp_region 3 mixed (by kernel_rfl) ?_
        refine rg_q (q_indexAddr sl168 rfl rfl (by omega) (map_at (by omega) hy)) ?_
        refine rg_q (q_load sz9 rfl rfl) ?_
        refine rg_q (q_assign (x := .d (.v _)) rfl) ?_
        refine rg_nil ?_
        refine aops_nil ?_
        change Awp _ _ _ _ _
        refine awp_seq ?_
        refine awp_region 1 mixed (by kernel_rfl) ?_
        refine rg_q (q_assign (x := .d (.v _)) rfl) ?_
        refine rg_nil ?_
        refine aops_nil ?_
        change Awp _ _ _ _ _
        refine awp_seq ?_
        refine awp_seq ?_
        refine awp_region 2 mixed (by kernel_rfl) ?_
        refine rg_q (q_move (x := .d (.v _)) rfl) ?_
        refine rg_q (q_neqs rfl rfl) ?_
        refine rg_nil ?_
        refine aops_nil ?_
        change Awp _ _ _ _ _
        refine awp_cond rfl (fun hc10 => ?_) (fun hc10 => ?_)
        ·
          (try simp only [decide_eq_true_eq, decide_eq_false_iff_not, Bool.and_eq_true, Bool.or_eq_true, Bool.and_eq_false_iff, Bool.or_eq_false_iff, Bool.not_eq_true', Bool.not_eq_false', Bool.not_true, Bool.not_false, bif_and, bif_or, Bool.not_not, ne_eq, Decidable.not_not, not_true_eq_false, not_false_eq_true, Int.not_le, Int.not_lt] at hc10)
          have hnd : y ≠ dsh := by simpa [dsh] using hc10
          refine awp_seq ?_
          refine awp_region 7 mixed (by kernel_rfl) ?_
          refine rg_q (q_move (x := .d (.v _)) rfl) ?_
          refine rg_q (q_callG en126 (.cons rfl .nil) rfl hG (number_p y (by omega))) ?_
          refine rg_q (q_move (x := .d (.tup _)) rfl) ?_
          refine rg_q (q_extract rfl rfl) ?_
          refine rg_q (q_extract rfl rfl) ?_
          refine rg_q (q_assign (x := .d (.v _)) rfl) ?_
          refine rg_q (q_assign (x := .d (.v _)) rfl) ?_
          refine rg_nil ?_
          refine aops_nil ?_
          change Awp _ _ _ _ _
          refine awp_seq ?_
          refine awp_region 7 mixed (by kernel_rfl) ?_
          refine rg_q (q_move (x := .d (.v _)) rfl) ?_
          refine rg_q (q_not rfl) ?_
          refine rg_q (q_move (x := .d (.v _)) rfl) ?_
          refine rg_g rfl rfl (fun hG => (q_move (x := .d (.v _)) rfl)) ?_
          refine rg_g rfl rfl (fun hG => (q_call en120 (.cons rfl .nil) rfl (sends_p _))) ?_
          refine rg_g rfl rfl (fun hG => (q_not rfl)) ?_
          refine rg_pick rfl rfl rfl rfl rfl rfl ?_
          refine rg_nil ?_
          refine aops_nil ?_
          change Awp _ _ _ _ _
          refine awp_cond rfl (fun hc12 => ?_) (fun hc12 => ?_)
          ·
            (try simp only [decide_eq_true_eq, decide_eq_false_iff_not, Bool.and_eq_true, Bool.or_eq_true, Bool.and_eq_false_iff, Bool.or_eq_false_iff, Bool.not_eq_true', Bool.not_eq_false', Bool.not_true, Bool.not_false, bif_and, bif_or, Bool.not_not, ne_eq, Decidable.not_not, not_true_eq_false, not_false_eq_true, Int.not_le, Int.not_lt] at hc12)
            have hyn : tkS y = none := by unfold tkS; rw [if_neg hnd, if_neg (by intro ⟨q1, q2⟩; simp_all; omega)]
            have hz : prsR s = (⟨0, []⟩, 7) := by unfold prsR; rw [if_pos (.inr ⟨y, List.mem_of_getElem? hy, hyn⟩)]
            refine awp_seq ?_
            refine awp_region 1 mixed (by kernel_rfl) ?_
            refine rg_q (q_build (cs := [_, _]) pl33 zr33 rfl .nil trivial rfl) ?_
            refine rg_nil ?_
            refine aops_store sz33 rfl rfl (by exact .inr ⟨_, rfl⟩) rfl rfl (by decide) rfl ?_
            refine aops_q rfl (q_assign (x := .d (.v _)) rfl) ?_
            refine aops_nil ?_
            change Awp _ _ _ _ _
            refine Awp.le (le_upB 2 (dlyC ⟨0, []⟩) rfl (.cons (.same _) (.cons (.nil 1) .nil))) ?_
            refine awp_ret ?_
            refine ⟨_, (.cons (.cellA rfl rfl sz33 rfl) (.cons (.tmp (by exact .d _)) .nil)), ?_⟩
            rw [hz]; rfl
          ·
            (try simp only [decide_eq_true_eq, decide_eq_false_iff_not, Bool.and_eq_true, Bool.or_eq_true, Bool.and_eq_false_iff, Bool.or_eq_false_iff, Bool.not_eq_true', Bool.not_eq_false', Bool.not_true, Bool.not_false, bif_and, bif_or, Bool.not_not, ne_eq, Decidable.not_not, not_true_eq_false, not_false_eq_true, Int.not_le, Int.not_lt] at hc12)
            have hyt : tkS y = some (numI y).1 := by unfold tkS; rw [if_neg hnd, if_pos (by simp_all)]
            have hyv : tkV y = (numI y).1 := by unfold tkV; rw [hyt]; rfl
            have hsk : (((pcr s).take (k + 1)).map fun x => iC (tkV x)) = (((pcr s).take k).map fun x => iC (tkV x)) ++ [[.v (.int .i64 (numI y).1)]] := by rw [hsk0, List.map_append]; simp [hyv, iC]
            refine awp_skip ?_
            change Awp _ _ _ _ _
            refine awp_region 4 mixed (by kernel_rfl) ?_
            refine rg_q (q_fieldAddr_ref fld33_1 rfl) ?_
            refine rg_q (q_load_tb (x := .rs _) sz31 rfl rfl rfl) ?_
            refine rg_q (q_move (x := .d (.v _)) rfl) ?_
            refine rg_q (q_buildSlice sl31 zr3 rfl rfl (by decide) (.cons rfl (by exact .inl rfl) .nil) ⟨rfl, rfl, trivial⟩ rfl (by decide) rfl) ?_
            refine rg_nil ?_
            refine aops_append sl31 zr3 by3 rfl (by decide) rfl rfl rfl rfl (by (try simp only [List.length_map, List.length_append, List.length_cons, List.length_nil]); omega) (by (try simp only [List.length_map, List.length_append, List.length_cons, List.length_nil]); omega) rfl rfl ?_
            refine aops_q rfl (q_fieldAddr_ref fld33_1 rfl) ?_
            refine aops_storeT (z := .rs _) sz31 rfl rfl rfl rfl (by simp) rfl ?_
            refine aops_nil ?_
            change Awp _ _ _ _ _
            refine awp_region 2 mixed (by kernel_rfl) ?_
            refine rg_q (q_add rfl rfl (In64.mk (by omega) (by omega))) ?_
            refine rg_q (q_move (x := .d (.v _)) rfl) ?_
            refine rg_nil ?_
            refine aops_nil ?_
            have hall2 : ∀ x ∈ (pcr s).take (k + 1), tkS x ≠ none := fun x hx => by
              rw [hsk0] at hx
              rcases List.mem_append.1 hx with hx | hx
              · exact hall x hx
              · rw [List.mem_singleton.1 hx, hyt]; simp
            refine ⟨k + 1, ⟨by omega, hall2⟩, by omega, ?_⟩
            exact le_head (ms := [7, 52]) (by repeat (first | exact Out.head rfl rfl | (refine Out.put ?_ rfl) | (refine Out.site ?_ rfl) | (refine Out.killS ?_ rfl))) ⟨(by rfl), trivial⟩ ⟨(by rfl), (by (show Site.row 3 1 (_ ++ [_]) = Site.row 3 1 _; rw [hsk]; rfl)), trivial⟩ rfl rfl rfl rfl
        ·
          (try simp only [decide_eq_true_eq, decide_eq_false_iff_not, Bool.and_eq_true, Bool.or_eq_true, Bool.and_eq_false_iff, Bool.or_eq_false_iff, Bool.not_eq_true', Bool.not_eq_false', Bool.not_true, Bool.not_false, bif_and, bif_or, Bool.not_not, ne_eq, Decidable.not_not, not_true_eq_false, not_false_eq_true, Int.not_le, Int.not_lt] at hc10)
          have hyd : y = dsh := by simpa [dsh] using hc10
          have hyt : tkS y = some (-1) := by unfold tkS; rw [if_pos hyd]
          have hyv : tkV y = -1 := by unfold tkV; rw [hyt]; rfl
          have hsk : (((pcr s).take (k + 1)).map fun x => iC (tkV x)) = (((pcr s).take k).map fun x => iC (tkV x)) ++ [[.v (.int .i64 (-1))]] := by rw [hsk0, List.map_append]; simp [hyv, iC]
          refine awp_skip ?_
          change Awp _ _ _ _ _
          refine awp_region 4 mixed (by kernel_rfl) ?_
          refine rg_q (q_fieldAddr_ref fld33_1 rfl) ?_
          refine rg_q (q_load_tb (x := .rs _) sz31 rfl rfl rfl) ?_
          refine rg_q (q_move (x := .d (.v _)) rfl) ?_
          refine rg_q (q_buildSlice sl31 zr3 rfl rfl (by decide) (.cons rfl (by exact .inl rfl) .nil) ⟨rfl, rfl, trivial⟩ rfl (by decide) rfl) ?_
          refine rg_nil ?_
          refine aops_append sl31 zr3 by3 rfl (by decide) rfl rfl rfl rfl (by (try simp only [List.length_map, List.length_append, List.length_cons, List.length_nil]); omega) (by (try simp only [List.length_map, List.length_append, List.length_cons, List.length_nil]); omega) rfl rfl ?_
          refine aops_q rfl (q_fieldAddr_ref fld33_1 rfl) ?_
          refine aops_storeT (z := .rs _) sz31 rfl rfl rfl rfl (by simp) rfl ?_
          refine aops_nil ?_
          change Awp _ _ _ _ _
          refine awp_region 2 mixed (by kernel_rfl) ?_
          refine rg_q (q_add rfl rfl (In64.mk (by omega) (by omega))) ?_
          refine rg_q (q_move (x := .d (.v _)) rfl) ?_
          refine rg_nil ?_
          refine aops_nil ?_
          have hall2 : ∀ x ∈ (pcr s).take (k + 1), tkS x ≠ none := fun x hx => by
            rw [hsk0] at hx
            rcases List.mem_append.1 hx with hx | hx
            · exact hall x hx
            · rw [List.mem_singleton.1 hx, hyt]; simp
          refine ⟨k + 1, ⟨by omega, hall2⟩, by omega, ?_⟩
          exact le_head (ms := [7, 52]) (by repeat (first | exact Out.head rfl rfl | (refine Out.put ?_ rfl) | (refine Out.site ?_ rfl) | (refine Out.killS ?_ rfl))) ⟨(by rfl), trivial⟩ ⟨(by rfl), (by (show Site.row 3 1 (_ ++ [_]) = Site.row 3 1 _; rw [hsk]; rfl)), trivial⟩ rfl rfl rfl rfl
      ·
        (try simp only [decide_eq_true_eq, decide_eq_false_iff_not, Bool.and_eq_true, Bool.or_eq_true, Bool.and_eq_false_iff, Bool.or_eq_false_iff, Bool.not_eq_true', Bool.not_eq_false', Bool.not_true, Bool.not_false, bif_and, bif_or, Bool.not_not, ne_eq, Decidable.not_not, not_true_eq_false, not_false_eq_true, Int.not_le, Int.not_lt] at hc7)
        have hkn : k = (pcr s).length := by omega
        subst hkn
        have hrow : (((pcr s).take (pcr s).length).map fun x => iC (tkV x)) = (prsD s).tk.map iC := by rw [List.take_length]; unfold prsD; rw [List.map_map]; rfl
        refine awp_exit ?_
        change Awp _ _ _ _ _
        refine awp_seq ?_
        refine awp_seq ?_
        have hgood : ¬ ((numI (pc0 s)).2 = false ∨ ∃ x ∈ pcr s, tkS x = none) := by
          rintro (q | ⟨x, q1, q2⟩)
          · rw [hq0] at q; cases q
          · exact hall x (by rw [List.take_length]; exact q1) q2
        refine Awp.le (le_freezeTB 7 52 1 (es := (prsD s).tk.map iC) rfl rfl (by show Site.row _ _ _ = _; rw [hrow]) rfl hmine) ?_
        refine Awp.le (le_boxT 7 (dlyC (prsD s)) rfl rfl (by intro j d h; match j, h with | 0, h => cases h; rfl | 1, h => cases h; rfl)) ?_
        refine awp_region 3 mixed (by kernel_rfl) ?_
        refine rg_q (q_load_refA (ds := [_, _]) sz33 rfl rfl rfl rfl) ?_
        refine rg_q (q_call en102 (.cons rfl .nil) rfl (lawErr_p _)) ?_
        refine rg_q (q_assign (x := .d (.v _)) rfl) ?_
        refine rg_nil ?_
        refine aops_nil ?_
        change Awp _ _ _ _ _
        refine awp_seq ?_
        refine awp_region 2 mixed (by kernel_rfl) ?_
        refine rg_q (q_move (x := .d (.v _)) rfl) ?_
        refine rg_q (q_neq rfl rfl) ?_
        refine rg_nil ?_
        refine aops_nil ?_
        change Awp _ _ _ _ _
        refine awp_cond rfl (fun hc17 => ?_) (fun hc17 => ?_)
        ·
          (try simp only [decide_eq_true_eq, decide_eq_false_iff_not, Bool.and_eq_true, Bool.or_eq_true, Bool.and_eq_false_iff, Bool.or_eq_false_iff, Bool.not_eq_true', Bool.not_eq_false', Bool.not_true, Bool.not_false, bif_and, bif_or, Bool.not_not, ne_eq, Decidable.not_not, not_true_eq_false, not_false_eq_true, Int.not_le, Int.not_lt] at hc17)
          have hz : prsR s = (⟨0, []⟩, (ckLaw (prsD s)).2) := by unfold prsR; rw [if_neg hgood, if_pos hc17]
          refine awp_seq ?_
          refine awp_region 2 mixed (by kernel_rfl) ?_
          refine rg_q (q_build (cs := [_, _]) pl33 zr33 rfl .nil trivial rfl) ?_
          refine rg_q (q_move (x := .d (.v _)) rfl) ?_
          refine rg_nil ?_
          refine aops_store sz33 rfl rfl (by exact .inr ⟨_, rfl⟩) rfl rfl (by decide) rfl ?_
          refine aops_q rfl (q_assign (x := .d (.v _)) rfl) ?_
          refine aops_nil ?_
          change Awp _ _ _ _ _
          refine Awp.le (le_upB 2 (dlyC ⟨0, []⟩) rfl (.cons (.same _) (.cons (.nil 1) .nil))) ?_
          refine awp_ret ?_
          refine ⟨_, (.cons (.cellA rfl rfl sz33 rfl) (.cons (.tmp (by exact .d _)) .nil)), ?_⟩
          rw [hz]; rfl
        ·
          (try simp only [decide_eq_true_eq, decide_eq_false_iff_not, Bool.and_eq_true, Bool.or_eq_true, Bool.and_eq_false_iff, Bool.or_eq_false_iff, Bool.not_eq_true', Bool.not_eq_false', Bool.not_true, Bool.not_false, bif_and, bif_or, Bool.not_not, ne_eq, Decidable.not_not, not_true_eq_false, not_false_eq_true, Int.not_le, Int.not_lt] at hc17)
          have hz : prsR s = (prsD s, 0) := by unfold prsR; rw [if_neg hgood, if_neg (fun h => h hc17)]
          refine awp_skip ?_
          change Awp _ _ _ _ _
          refine awp_seq ?_
          refine awp_region 1 mixed (by kernel_rfl) ?_
          refine rg_q (q_load_refA (ds := [_, _]) sz33 rfl rfl rfl rfl) ?_
          refine rg_nil ?_
          refine aops_store sz33 rfl rfl (by exact .inr ⟨_, rfl⟩) rfl rfl (by decide) rfl ?_
          refine aops_q rfl (q_assign (x := .d (.v _)) rfl) ?_
          refine aops_nil ?_
          change Awp _ _ _ _ _
          refine awp_ret ?_
          refine ⟨_, (.cons (.cellA rfl rfl sz33 rfl) (.cons (.tmp (by exact .d _)) .nil)), ?_⟩
          rw [hz]; rfl
end Go.Proofs.YtgeieocphgnipaaGreatDoor.Am.M
