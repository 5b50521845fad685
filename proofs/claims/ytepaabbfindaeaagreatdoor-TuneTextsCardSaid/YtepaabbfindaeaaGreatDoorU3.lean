/- Contracts over the abstract machine: texts of events: the code, the reference. Conditions: none. -/
import Derived.Test.YtepaabbfindaeaaGreatDoorU2
set_option linter.unusedVariables false
set_option linter.unusedSimpArgs false
namespace Go.Proofs.YtepaabbfindaeaaGreatDoor.Am.M
open Go

/-- The text of an event. -/
def fmtE (x : Evt) : ByteArray := mkB (Lib.itoa x.minute) ++ ⟨#[32]⟩ ++ mkB (Lib.itoa x.step) ++ ⟨#[32]⟩ ++ mkB (Lib.itoa x.warmth)
def EvI (x : Evt) : Prop := In64 x.minute ∧ In64 x.step ∧ In64 x.warmth
def pcN (s : ByteArray) (k : Nat) : ByteArray := (pcs s).getD k ⟨#[]⟩
/-- An event from a text, with the reading of numbers g. -/
def ev3 (g : ByteArray → Int × Bool) (s : ByteArray) : Evt × Int := if (pcs s).length ≠ 3 ∨ (∃ x ∈ pcs s, (g x).2 = false) then (⟨0, 0, 0⟩, 7) else (⟨(g (pcN s 0)).1, (g (pcN s 1)).1, (g (pcN s 2)).1⟩, 0)
def nmB (x : ByteArray) : Int × Bool := nmL x.data.toList
/-- The cells of an event of which k numbers are read. -/
def evK (g : ByteArray → Int × Bool) (s : ByteArray) (k : Nat) : List D := [.v (.int .i64 (if 0 < k then (g (pcN s 0)).1 else 0)), .v (.int .i64 (if 1 < k then (g (pcN s 1)).1 else 0)), .v (.int .i64 (if 2 < k then (g (pcN s 2)).1 else 0))]
theorem evK_len (g : ByteArray → Int × Bool) (s : ByteArray) (k : Nat) : (evK g s k).length = 3 := rfl
theorem evK_set (g : ByteArray → Int × Bool) (s : ByteArray) {k : Nat} (h : k < 3) : setCs (evK g s k) k [.v (.int .i64 (g (pcN s k)).1)] = evK g s (k + 1) := by
  match k, h with
  | 0, _ => rfl
  | 1, _ => rfl
  | 2, _ => rfl
theorem pcN_at {s : ByteArray} {k : Nat} (h : k < (pcs s).length) : (pcs s)[k]? = some (pcN s k) := by
  unfold pcN
  rw [List.getD_eq_getElem?_getD, List.getElem?_eq_getElem h]; rfl
theorem ev3_len {g : ByteArray → Int × Bool} {s : ByteArray} (h : (pcs s).length ≠ 3) : ev3 g s = (⟨0, 0, 0⟩, 7) := by unfold ev3; rw [if_pos (.inl h)]
theorem ev3_bad {g : ByteArray → Int × Bool} {s : ByteArray} {k : Nat} (h : k < (pcs s).length) (hb : (g (pcN s k)).2 = false) : ev3 g s = (⟨0, 0, 0⟩, 7) := by unfold ev3; rw [if_pos (.inr ⟨_, List.mem_of_getElem? (pcN_at h), hb⟩)]
theorem ev3_good {g : ByteArray → Int × Bool} {s : ByteArray} (h : (pcs s).length = 3) (hg : ∀ j, j < 3 → (g (pcN s j)).2 = true) : ev3 g s = (⟨(g (pcN s 0)).1, (g (pcN s 1)).1, (g (pcN s 2)).1⟩, 0) := by
  unfold ev3
  rw [if_neg]
  rintro (q | ⟨x, q1, q2⟩)
  · exact q h
  · obtain ⟨j, hj⟩ := List.getElem?_of_mem q1
    have hjl : j < (pcs s).length := (List.getElem?_eq_some_iff.1 hj).1
    rw [pcN_at hjl] at hj
    obtain rfl := Option.some.inj hj
    rw [hg j (by omega)] at q2; cases q2
theorem mkB_eq {l : List UInt8} {s : ByteArray} : mkB l = s ↔ l = s.data.toList := ⟨fun h => by rw [← h, data_mkB], fun h => by rw [h, mkB_data]⟩
set_option maxRecDepth 100000 in
theorem formatEvent_p (x : Evt) (h : EvI x) : PCG Tryz.prog GW 5 [.agg (evC x)] (.v (.string (fmtE x))) := by
  have l1 := itoa_len h.1
  have l2 := itoa_len h.2.1
  have l3 := itoa_len h.2.2
  have hs1 : (⟨#[32]⟩ : ByteArray).size = 1 := rfl
  refine pcg_of_awpN gw_keep Tryz.func5 rfl Tryz.ntmps5 (rs := [.tmp 2]) Tryz.results5 (by simp) fun w0 hmine hrnd hpn hG => ?_
  refine awp_seq ?_
  refine awp_region 2 mixed (by kernel_rfl) ?_
  refine rg_q (q_box rfl (by first | exact .inl rfl | exact .inr ⟨_, rfl⟩)) ?_
  refine rg_q (q_assign (x := .d (.v _)) rfl) ?_
  refine rg_nil ?_
  refine aops_nil ?_
  change Awp _ _ _ _ _
  refine awp_seq ?_
  refine awp_region 14 mixed (by kernel_rfl) ?_
  first | refine rg_q (q_fieldAddr fld23_0 rfl) ?_ | refine rg_q (q_fieldAddr_ref fld23_0 rfl) ?_
  first | refine rg_q (q_load sz3 rfl rfl) ?_ | refine rg_q (q_load_ref sz3 rfl rfl rfl) ?_ | refine rg_q (q_load_tb (x := .d _) sz3 rfl rfl rfl) ?_ | refine rg_q (q_load_tb (x := .rs _) sz3 rfl rfl rfl) ?_
  first | refine rg_q (q_callG en17 (.cons rfl .nil) rfl hG (itoa_p x.minute h.1)) ?_ | refine rg_q (q_callFG en17 (.cons (by first | exact .d _ | exact .rs rfl | exact .ref rfl | exact .nil _ | exact .tref rfl (by repeat (first | exact .nil | refine .cons (.d _ rfl) ?_ | refine .cons (.rs rfl) ?_))) .nil) rfl hG (itoa_p x.minute h.1) (by first | exact .v _ | exact D.Flat.tupF (by repeat first | exact trivial | refine ⟨.v _, ?_⟩) | exact D.Flat.aggF (by repeat first | exact trivial | refine ⟨.v _, ?_⟩))) ?_
  refine rg_q (q_adds rfl rfl (by first | omega | (simp only [ByteArray.size_append, mkB_size, hs1]; omega))) ?_
  first | refine rg_q (q_fieldAddr fld23_1 rfl) ?_ | refine rg_q (q_fieldAddr_ref fld23_1 rfl) ?_
  first | refine rg_q (q_load sz3 rfl rfl) ?_ | refine rg_q (q_load_ref sz3 rfl rfl rfl) ?_ | refine rg_q (q_load_tb (x := .d _) sz3 rfl rfl rfl) ?_ | refine rg_q (q_load_tb (x := .rs _) sz3 rfl rfl rfl) ?_
  first | refine rg_q (q_callG en17 (.cons rfl .nil) rfl hG (itoa_p x.step h.2.1)) ?_ | refine rg_q (q_callFG en17 (.cons (by first | exact .d _ | exact .rs rfl | exact .ref rfl | exact .nil _ | exact .tref rfl (by repeat (first | exact .nil | refine .cons (.d _ rfl) ?_ | refine .cons (.rs rfl) ?_))) .nil) rfl hG (itoa_p x.step h.2.1) (by first | exact .v _ | exact D.Flat.tupF (by repeat first | exact trivial | refine ⟨.v _, ?_⟩) | exact D.Flat.aggF (by repeat first | exact trivial | refine ⟨.v _, ?_⟩))) ?_
  refine rg_q (q_adds rfl rfl (by first | omega | (simp only [ByteArray.size_append, mkB_size, hs1]; omega))) ?_
  refine rg_q (q_adds rfl rfl (by first | omega | (simp only [ByteArray.size_append, mkB_size, hs1]; omega))) ?_
  first | refine rg_q (q_fieldAddr fld23_2 rfl) ?_ | refine rg_q (q_fieldAddr_ref fld23_2 rfl) ?_
  first | refine rg_q (q_load sz3 rfl rfl) ?_ | refine rg_q (q_load_ref sz3 rfl rfl rfl) ?_ | refine rg_q (q_load_tb (x := .d _) sz3 rfl rfl rfl) ?_ | refine rg_q (q_load_tb (x := .rs _) sz3 rfl rfl rfl) ?_
  first | refine rg_q (q_callG en17 (.cons rfl .nil) rfl hG (itoa_p x.warmth h.2.2)) ?_ | refine rg_q (q_callFG en17 (.cons (by first | exact .d _ | exact .rs rfl | exact .ref rfl | exact .nil _ | exact .tref rfl (by repeat (first | exact .nil | refine .cons (.d _ rfl) ?_ | refine .cons (.rs rfl) ?_))) .nil) rfl hG (itoa_p x.warmth h.2.2) (by first | exact .v _ | exact D.Flat.tupF (by repeat first | exact trivial | refine ⟨.v _, ?_⟩) | exact D.Flat.aggF (by repeat first | exact trivial | refine ⟨.v _, ?_⟩))) ?_
  refine rg_q (q_adds rfl rfl (by first | omega | (simp only [ByteArray.size_append, mkB_size, hs1]; omega))) ?_
  refine rg_q (q_assign (x := .d (.v _)) rfl) ?_
  refine rg_nil ?_
  refine aops_nil ?_
  change Awp _ _ _ _ _
  refine awp_ret ?_
  refine ⟨_, (.cons (.tmp (by first | exact .d _ | exact .rs rfl | exact .ref rfl | exact .tref rfl (.cons (.d _ rfl) (.cons (.rs rfl) .nil)))) .nil), ?_⟩
  rfl
set_option maxRecDepth 100000 in
theorem rformatEvent_p (x : Evt) (h : EvI x) : PC Tryz.prog 8 [.agg (evC x)] (.v (.string (fmtE x))) := by
  have l1 := itoa_len h.1
  have l2 := itoa_len h.2.1
  have l3 := itoa_len h.2.2
  have hs1 : (⟨#[32]⟩ : ByteArray).size = 1 := rfl
  refine pc_of_awp Tryz.func8 rfl Tryz.ntmps8 (rs := [.tmp 2]) Tryz.results8 (by simp) fun w0 => ?_
  refine awp_seq ?_
  refine awp_region 2 mixed (by kernel_rfl) ?_
  refine rg_q (q_box rfl (by first | exact .inl rfl | exact .inr ⟨_, rfl⟩)) ?_
  refine rg_q (q_assign (x := .d (.v _)) rfl) ?_
  refine rg_nil ?_
  refine aops_nil ?_
  change Awp _ _ _ _ _
  refine awp_seq ?_
  refine awp_region 14 mixed (by kernel_rfl) ?_
  first | refine rg_q (q_fieldAddr fld23_0 rfl) ?_ | refine rg_q (q_fieldAddr_ref fld23_0 rfl) ?_
  first | refine rg_q (q_load sz3 rfl rfl) ?_ | refine rg_q (q_load_ref sz3 rfl rfl rfl) ?_ | refine rg_q (q_load_tb (x := .d _) sz3 rfl rfl rfl) ?_ | refine rg_q (q_load_tb (x := .rs _) sz3 rfl rfl rfl) ?_
  first | refine rg_q (q_call en23 (.cons rfl .nil) rfl (decimal_p x.minute h.1)) ?_ | refine rg_q (q_callF en23 (.cons (by first | exact .d _ | exact .rs rfl | exact .ref rfl | exact .nil _ | exact .tref rfl (by repeat (first | exact .nil | refine .cons (.d _ rfl) ?_ | refine .cons (.rs rfl) ?_))) .nil) rfl (decimal_p x.minute h.1) (by first | exact .v _ | exact D.Flat.tupF (by repeat first | exact trivial | refine ⟨.v _, ?_⟩) | exact D.Flat.aggF (by repeat first | exact trivial | refine ⟨.v _, ?_⟩))) ?_
  refine rg_q (q_adds rfl rfl (by first | omega | (simp only [ByteArray.size_append, mkB_size, hs1]; omega))) ?_
  first | refine rg_q (q_fieldAddr fld23_1 rfl) ?_ | refine rg_q (q_fieldAddr_ref fld23_1 rfl) ?_
  first | refine rg_q (q_load sz3 rfl rfl) ?_ | refine rg_q (q_load_ref sz3 rfl rfl rfl) ?_ | refine rg_q (q_load_tb (x := .d _) sz3 rfl rfl rfl) ?_ | refine rg_q (q_load_tb (x := .rs _) sz3 rfl rfl rfl) ?_
  first | refine rg_q (q_call en23 (.cons rfl .nil) rfl (decimal_p x.step h.2.1)) ?_ | refine rg_q (q_callF en23 (.cons (by first | exact .d _ | exact .rs rfl | exact .ref rfl | exact .nil _ | exact .tref rfl (by repeat (first | exact .nil | refine .cons (.d _ rfl) ?_ | refine .cons (.rs rfl) ?_))) .nil) rfl (decimal_p x.step h.2.1) (by first | exact .v _ | exact D.Flat.tupF (by repeat first | exact trivial | refine ⟨.v _, ?_⟩) | exact D.Flat.aggF (by repeat first | exact trivial | refine ⟨.v _, ?_⟩))) ?_
  refine rg_q (q_adds rfl rfl (by first | omega | (simp only [ByteArray.size_append, mkB_size, hs1]; omega))) ?_
  refine rg_q (q_adds rfl rfl (by first | omega | (simp only [ByteArray.size_append, mkB_size, hs1]; omega))) ?_
  first | refine rg_q (q_fieldAddr fld23_2 rfl) ?_ | refine rg_q (q_fieldAddr_ref fld23_2 rfl) ?_
  first | refine rg_q (q_load sz3 rfl rfl) ?_ | refine rg_q (q_load_ref sz3 rfl rfl rfl) ?_ | refine rg_q (q_load_tb (x := .d _) sz3 rfl rfl rfl) ?_ | refine rg_q (q_load_tb (x := .rs _) sz3 rfl rfl rfl) ?_
  first | refine rg_q (q_call en23 (.cons rfl .nil) rfl (decimal_p x.warmth h.2.2)) ?_ | refine rg_q (q_callF en23 (.cons (by first | exact .d _ | exact .rs rfl | exact .ref rfl | exact .nil _ | exact .tref rfl (by repeat (first | exact .nil | refine .cons (.d _ rfl) ?_ | refine .cons (.rs rfl) ?_))) .nil) rfl (decimal_p x.warmth h.2.2) (by first | exact .v _ | exact D.Flat.tupF (by repeat first | exact trivial | refine ⟨.v _, ?_⟩) | exact D.Flat.aggF (by repeat first | exact trivial | refine ⟨.v _, ?_⟩))) ?_
  refine rg_q (q_adds rfl rfl (by first | omega | (simp only [ByteArray.size_append, mkB_size, hs1]; omega))) ?_
  refine rg_q (q_assign (x := .d (.v _)) rfl) ?_
  refine rg_nil ?_
  refine aops_nil ?_
  change Awp _ _ _ _ _
  refine awp_ret ?_
  refine ⟨_, (.cons (.tmp (by first | exact .d _ | exact .rs rfl | exact .ref rfl | exact .tref rfl (.cons (.d _ rfl) (.cons (.rs rfl) .nil)))) .nil), ?_⟩
  rfl
set_option maxRecDepth 100000 in
theorem parseEvent_p (s : ByteArray) (hs : s.size ≤ 100000) : PCG Tryz.prog GW 6 [.v (.string (s))] (.tup [.agg (evC (ev3 numI s).1), .v (.int .i64 (ev3 numI s).2)]) := by
  obtain ⟨pl1, pl2⟩ := pcs_len s
  refine pcg_of_awpN gw_keep Tryz.func6 rfl Tryz.ntmps6 (rs := [.cell 2 23, .tmp 3]) Tryz.results6 (by simp) fun w0 hmine hrnd hpn hG => ?_
  refine awp_seq ?_
  refine awp_region 0 mixed (by kernel_rfl) ?_
  refine rg_nil ?_
  refine aops_alloc zr23 rfl rfl rfl ?_
  refine aops_q rfl (q_assign (x := .d (.v _)) rfl) ?_
  refine aops_nil ?_
  change Awp _ _ _ _ _
  refine awp_seq ?_
  refine awp_region 0 mixed (by kernel_rfl) ?_
  refine rg_nil ?_
  refine aops_alloc zr23 rfl rfl rfl ?_
  refine aops_nil ?_
  change Awp _ _ _ _ _
  refine awp_seq ?_
  refine awp_region 4 mixed (by kernel_rfl) ?_
  first | refine rg_q (q_fieldAddr fld23_0 rfl) ?_ | refine rg_q (q_fieldAddr_ref fld23_0 rfl) ?_
  first | refine rg_q (q_fieldAddr fld23_1 rfl) ?_ | refine rg_q (q_fieldAddr_ref fld23_1 rfl) ?_
  first | refine rg_q (q_fieldAddr fld23_2 rfl) ?_ | refine rg_q (q_fieldAddr_ref fld23_2 rfl) ?_
  refine rg_q (q_build_ptrs ar56 zr56 rfl rfl rfl rfl) ?_
  refine rg_nil ?_
  refine aops_alloc zr56 rfl rfl rfl ?_
  refine aops_le (le_tbox (k := 5) (ts := [_, _, _]) rfl rfl) ?_
  refine aops_store_ptrs sz56 rfl rfl rfl rfl rfl ?_
  refine aops_nil ?_
  change Awp _ _ _ _ _
  refine awp_seq ?_
  refine awp_region 3 mixed (by kernel_rfl) ?_
  refine rg_q (q_move (x := .d (.v _)) rfl) ?_
  first | refine rg_q (q_callG en18 (.cons rfl (.cons rfl .nil)) rfl hG (split_p _ (by omega))) ?_ | refine rg_q (q_callFG en18 (.cons (by first | exact .d _ | exact .rs rfl | exact .ref rfl | exact .nil _ | exact .tref rfl (by repeat (first | exact .nil | refine .cons (.d _ rfl) ?_ | refine .cons (.rs rfl) ?_))) (.cons (by first | exact .d _ | exact .rs rfl | exact .ref rfl | exact .nil _ | exact .tref rfl (by repeat (first | exact .nil | refine .cons (.d _ rfl) ?_ | refine .cons (.rs rfl) ?_))) .nil)) rfl hG (split_p _ (by omega)) (by first | exact .v _ | exact D.Flat.tupF (by repeat first | exact trivial | refine ⟨.v _, ?_⟩) | exact D.Flat.aggF (by repeat first | exact trivial | refine ⟨.v _, ?_⟩))) ?_
  first | refine rg_q (q_assign (x := .d (.sl _ _)) rfl) ?_ | refine rg_q (q_assign (x := .rs _) rfl) ?_ | refine rg_q (q_assign (x := .d (.v _)) rfl) ?_
  refine rg_nil ?_
  refine aops_nil ?_
  change Awp _ _ _ _ _
  refine awp_seq ?_
  refine awp_seq ?_
  refine awp_region 3 mixed (by kernel_rfl) ?_
  first | refine rg_q (q_move (x := .d (.sl _ _)) rfl) ?_ | refine rg_q (q_move (x := .rs _) rfl) ?_ | refine rg_q (q_move (x := .d (.v _)) rfl) ?_
  first | refine rg_q (q_len isl57 rfl (by first | exact len_map _ _ | rfl)) ?_ | refine rg_q (q_len_rs isl57 rfl rfl) ?_ | refine rg_q (q_len_nil isl57 rfl) ?_
  refine rg_q (q_neq rfl rfl) ?_
  refine rg_nil ?_
  refine aops_nil ?_
  change Awp _ _ _ _ _
  first | refine awp_len (t := 17) rfl (fun hl17 => ?_) | skip
  (try simp only [List.length_map] at hl17)
  refine awp_cond rfl (fun hc4 => ?_) (fun hc4 => ?_)
  ·
    (try simp only [decide_eq_true_eq, decide_eq_false_iff_not, Bool.and_eq_true, Bool.or_eq_true, Bool.and_eq_false_iff, Bool.or_eq_false_iff, Bool.not_eq_true', Bool.not_eq_false', Bool.not_true, Bool.not_false, bif_and, bif_or, Bool.not_not, ne_eq, Decidable.not_not, not_true_eq_false, not_false_eq_true, Int.not_le, Int.not_lt] at hc4)
    have hz : ev3 numI s = (⟨0, 0, 0⟩, 7) := ev3_len (by (try simp only [List.length_map] at hc4); omega)
    refine awp_seq ?_
    refine awp_region 1 mixed (by kernel_rfl) ?_
    refine rg_q (q_build (cs := [_, _, _]) pl23 zr23 rfl .nil trivial rfl) ?_
    refine rg_nil ?_
    first | refine aops_store sz23 rfl rfl (by first | exact .inl rfl | exact .inr ⟨_, rfl⟩) rfl rfl (by first | decide | simp; done | exact Nat.le_of_ble_eq_true rfl) rfl ?_ | refine aops_storeT (z := .rs _) sz23 rfl rfl rfl rfl (by first | decide | simp) rfl ?_ | refine aops_storeT (z := .d _) sz23 rfl rfl rfl rfl (by first | decide | simp) rfl ?_ | refine aops_storeTA sz23 rfl rfl (by first | exact .inl rfl | exact .inr ⟨_, rfl⟩) rfl rfl (by first | decide | simp) rfl ?_
    refine aops_q rfl (q_assign (x := .d (.v _)) rfl) ?_
    refine aops_nil ?_
    change Awp _ _ _ _ _
    refine awp_ret ?_
    refine ⟨_, (.cons (.cellA rfl rfl sz23 rfl) (.cons (.tmp (by first | exact .d _ | exact .rs rfl | exact .ref rfl | exact .tref rfl (.cons (.d _ rfl) (.cons (.rs rfl) .nil)))) .nil)), ?_⟩
    rw [hz]; rfl
  ·
    (try simp only [decide_eq_true_eq, decide_eq_false_iff_not, Bool.and_eq_true, Bool.or_eq_true, Bool.and_eq_false_iff, Bool.or_eq_false_iff, Bool.not_eq_true', Bool.not_eq_false', Bool.not_true, Bool.not_false, bif_and, bif_or, Bool.not_not, ne_eq, Decidable.not_not, not_true_eq_false, not_false_eq_true, Int.not_le, Int.not_lt] at hc4)
    have hl3 : (pcs s).length = 3 := by (try simp only [List.length_map] at hc4); omega
    refine awp_skip ?_
    change Awp _ _ _ _ _
    refine awp_seq ?_
    refine awp_seq ?_
    refine awp_region 2 mixed (by kernel_rfl) ?_
    refine rg_q (q_load_ptrs sz56 rfl rfl rfl (by decide)) ?_
    refine rg_q (q_move (x := .d (.v _)) rfl) ?_
    refine rg_nil ?_
    refine aops_nil ?_
    change Awp _ _ _ _ _
    refine awp_block ?_
    refine awp_loopH [3, 7, 8, 9, 10, 22, 23, 24, 25, 26, 27, 28, 29, 30, 31, 32, 33, 34, 35, 36, 37, 38, 39, 40, 41, 42, 43, 44, 45, 46, 47, 48, 49, 50, 51, 52, 53, 54, 55, 56, 57, 58] [4] (α := Nat) (fun k => [(22, T.i (k : Int))]) (fun k => [(4, .box (evK numI s k))]) (fun k => k ≤ 3 ∧ ∀ j, j < k → (numI (pcN s j)).2 = true) (fun k => 3 - k) 0 ⟨by omega, fun j h => by omega⟩ ?_ ?_
    · exact le_head (ms := [4]) (by repeat (first | exact Out.refl _ | exact Out.head rfl rfl | (refine Out.put ?_ rfl) | (refine Out.site ?_ rfl) | (refine Out.putn ?_) | (refine Out.headIn ?_ rfl rfl rfl) | (refine Out.called ?_ rfl rfl))) ⟨(by first | rfl | (simp; done)), trivial⟩ ⟨(by first | rfl | (simp; done)), trivial⟩ rfl rfl rfl rfl
    ·
      intro k ⟨hk, hall⟩
      refine awp_seq ?_
      refine awp_region 1 mixed (by kernel_rfl) ?_
      refine rg_q (q_lss rfl rfl) ?_
      refine rg_nil ?_
      refine aops_nil ?_
      change Awp _ _ _ _ _
      refine awp_seq ?_
      refine awp_cond rfl (fun hc7 => ?_) (fun hc7 => ?_)
      ·
        (try simp only [decide_eq_true_eq, decide_eq_false_iff_not, Bool.and_eq_true, Bool.or_eq_true, Bool.and_eq_false_iff, Bool.or_eq_false_iff, Bool.not_eq_true', Bool.not_eq_false', Bool.not_true, Bool.not_false, bif_and, bif_or, Bool.not_not, ne_eq, Decidable.not_not, not_true_eq_false, not_false_eq_true, Int.not_le, Int.not_lt] at hc7)
        have hlt : k < 3 := by omega
        have hy := pcN_at (s := s) (k := k) (by omega)
        have hys := pcs_le (List.mem_of_getElem? hy)
        have hix : ([0, 1, 2] : List Nat)[((k : Nat) : Int).toNat]? = some k := by
          rw [Int.toNat_natCast]
          match k, hlt with
          | 0, _ => rfl
          | 1, _ => rfl
          | 2, _ => rfl
        obtain ⟨an1, an2⟩ := aI_num (pcN s k)
        refine awp_skip ?_
        change Awp _ _ _ _ _
        refine awp_seq ?_
        refine awp_block ?_
        refine awp_seq ?_
        refine awp_region 4 mixed (by kernel_rfl) ?_
        refine rg_q (q_move (x := .d (.v _)) rfl) ?_
        refine rg_q (q_index_ptrs (o := k) ar56 sz55 rfl rfl (by omega) (by omega) hix) ?_
        refine rg_q (q_assign (x := .d (.v _)) rfl) ?_
        first | refine rg_q (q_assign (x := .d (.pt _ _)) rfl) ?_ | refine rg_q (q_assign (x := .ref _ _) rfl) ?_ | refine rg_q (q_assign (x := .d (.v _)) rfl) ?_ | refine rg_q (q_assign (x := .d _) rfl) ?_
        refine rg_nil ?_
        refine aops_nil ?_
        change Awp _ _ _ _ _
        refine awp_seq ?_
        refine awp_region 4 mixed (by kernel_rfl) ?_
        first | refine rg_q (q_move (x := .d (.sl _ _)) rfl) ?_ | refine rg_q (q_move (x := .rs _) rfl) ?_ | refine rg_q (q_move (x := .d (.v _)) rfl) ?_
        refine rg_q (q_move (x := .d (.v _)) rfl) ?_
        first | refine rg_q (q_indexAddr sl57 rfl rfl (by omega) (map_at (by omega) hy)) ?_ | refine rg_q (q_indexAddr_rs sl57 rfl rfl rfl (by omega) (by omega)) ?_
        first | refine rg_q (q_load sz9 rfl rfl) ?_ | refine rg_q (q_load_ref sz9 rfl rfl rfl) ?_ | refine rg_q (q_load_tb (x := .d _) sz9 rfl rfl rfl) ?_ | refine rg_q (q_load_tb (x := .rs _) sz9 rfl rfl rfl) ?_
        refine rg_nil ?_
        refine aops_callQ (k := 4) en19 hG (atoi_q (pcN s k) (by omega)) (.cons rfl .nil) rfl rfl ?_
        first | refine aops_q rfl (q_move (x := .d (.tup _)) rfl) ?_ | refine aops_q rfl (q_move (x := .own _ _ _ _) rfl) ?_
        refine aops_q rfl (q_extractE0 rfl) ?_
        refine aops_q rfl (q_extractE1 rfl) ?_
        refine aops_q rfl (q_assign (x := .d (.v _)) rfl) ?_
        refine aops_q rfl (q_assign (x := _) rfl) ?_
        refine aops_nil ?_
        change Awp _ _ _ _ _
        refine awp_seq ?_
        refine awp_seq ?_
        refine awp_region 20 mixed (by kernel_rfl) ?_
        refine rg_q (q_move (x := _) rfl) ?_
        refine rg_q (q_neqErr (by kernel_rfl) rfl) ?_
        refine rg_q (q_move (x := .d (.v _)) rfl) ?_
        refine rg_g rfl rfl (fun hG => (q_move (x := .d (.v _)) rfl)) ?_
        first | refine rg_g rfl rfl (fun hGu => (q_callG en17 (.cons rfl .nil) rfl hG (itoa_p (aI (pcN s k)).1 (aI_in (by have hg0 := T.bool_inj (a := _) hGu.1; simpa using hg0))))) ?_ | refine rg_g rfl rfl (fun hGu => (q_callFG en17 (.cons (by first | exact .d _ | exact .rs rfl | exact .ref rfl | exact .nil _ | exact .tref rfl (by repeat (first | exact .nil | refine .cons (.d _ rfl) ?_ | refine .cons (.rs rfl) ?_))) .nil) rfl hG (itoa_p (aI (pcN s k)).1 (aI_in (by have hg0 := T.bool_inj (a := _) hGu.1; simpa using hg0))) (by first | exact .v _ | exact D.Flat.tupF (by repeat first | exact trivial | refine ⟨.v _, ?_⟩) | exact D.Flat.aggF (by repeat first | exact trivial | refine ⟨.v _, ?_⟩)))) ?_
        first | refine rg_g rfl rfl (fun hG => (q_move (x := .d (.sl _ _)) rfl)) ?_ | refine rg_g rfl rfl (fun hG => (q_move (x := .rs _) rfl)) ?_ | refine rg_g rfl rfl (fun hG => (q_move (x := .d (.v _)) rfl)) ?_
        refine rg_g rfl rfl (fun hG => (q_move (x := .d (.v _)) rfl)) ?_
        first | refine rg_g rfl rfl (fun hG => (q_indexAddr sl57 rfl rfl (by (have hg0 := T.bool_inj (a := _) hG.1; (try simp only [decide_eq_true_eq, decide_eq_false_iff_not, Bool.and_eq_true, Bool.or_eq_true, Bool.and_eq_false_iff, Bool.or_eq_false_iff, Bool.not_eq_true', Bool.not_eq_false', Bool.not_true, Bool.not_false, bif_and, bif_or, Bool.not_not, ne_eq, Decidable.not_not, not_true_eq_false, not_false_eq_true, Int.not_le, Int.not_lt] at hg0); omega)) (map_at (by (have hg0 := T.bool_inj (a := _) hG.1; (try simp only [decide_eq_true_eq, decide_eq_false_iff_not, Bool.and_eq_true, Bool.or_eq_true, Bool.and_eq_false_iff, Bool.or_eq_false_iff, Bool.not_eq_true', Bool.not_eq_false', Bool.not_true, Bool.not_false, bif_and, bif_or, Bool.not_not, ne_eq, Decidable.not_not, not_true_eq_false, not_false_eq_true, Int.not_le, Int.not_lt] at hg0); omega)) hy))) ?_ | refine rg_g rfl rfl (fun hG => (q_indexAddr_rs sl57 rfl rfl rfl (by (have hg0 := T.bool_inj (a := _) hG.1; (try simp only [decide_eq_true_eq, decide_eq_false_iff_not, Bool.and_eq_true, Bool.or_eq_true, Bool.and_eq_false_iff, Bool.or_eq_false_iff, Bool.not_eq_true', Bool.not_eq_false', Bool.not_true, Bool.not_false, bif_and, bif_or, Bool.not_not, ne_eq, Decidable.not_not, not_true_eq_false, not_false_eq_true, Int.not_le, Int.not_lt] at hg0); omega)) (by (have hg0 := T.bool_inj (a := _) hG.1; (try simp only [decide_eq_true_eq, decide_eq_false_iff_not, Bool.and_eq_true, Bool.or_eq_true, Bool.and_eq_false_iff, Bool.or_eq_false_iff, Bool.not_eq_true', Bool.not_eq_false', Bool.not_true, Bool.not_false, bif_and, bif_or, Bool.not_not, ne_eq, Decidable.not_not, not_true_eq_false, not_false_eq_true, Int.not_le, Int.not_lt] at hg0); omega)))) ?_
        first | refine rg_g rfl rfl (fun hG => (q_load sz9 rfl rfl)) ?_ | refine rg_g rfl rfl (fun hG => (q_load_ref sz9 rfl rfl rfl)) ?_ | refine rg_g rfl rfl (fun hG => (q_load_tb (x := .d _) sz9 rfl rfl rfl)) ?_ | refine rg_g rfl rfl (fun hG => (q_load_tb (x := .rs _) sz9 rfl rfl rfl)) ?_
        refine rg_g rfl rfl (fun hG => (q_neqs rfl rfl)) ?_
        first | refine rg_pick rfl rfl rfl rfl rfl rfl ?_ | refine rg_q (q_pick rfl rfl rfl) ?_
        refine rg_q (q_move (x := .d (.v _)) rfl) ?_
        first | refine rg_g rfl rfl (fun hG => (q_move (x := .d (.sl _ _)) rfl)) ?_ | refine rg_g rfl rfl (fun hG => (q_move (x := .rs _) rfl)) ?_ | refine rg_g rfl rfl (fun hG => (q_move (x := .d (.v _)) rfl)) ?_
        refine rg_g rfl rfl (fun hG => (q_move (x := .d (.v _)) rfl)) ?_
        first | refine rg_g rfl rfl (fun hG => (q_indexAddr sl57 rfl rfl (by (have hg0 := T.bool_inj (a := _) hG.1; (try simp only [decide_eq_true_eq, decide_eq_false_iff_not, Bool.and_eq_true, Bool.or_eq_true, Bool.and_eq_false_iff, Bool.or_eq_false_iff, Bool.not_eq_true', Bool.not_eq_false', Bool.not_true, Bool.not_false, bif_and, bif_or, Bool.not_not, ne_eq, Decidable.not_not, not_true_eq_false, not_false_eq_true, Int.not_le, Int.not_lt] at hg0); omega)) (map_at (by (have hg0 := T.bool_inj (a := _) hG.1; (try simp only [decide_eq_true_eq, decide_eq_false_iff_not, Bool.and_eq_true, Bool.or_eq_true, Bool.and_eq_false_iff, Bool.or_eq_false_iff, Bool.not_eq_true', Bool.not_eq_false', Bool.not_true, Bool.not_false, bif_and, bif_or, Bool.not_not, ne_eq, Decidable.not_not, not_true_eq_false, not_false_eq_true, Int.not_le, Int.not_lt] at hg0); omega)) hy))) ?_ | refine rg_g rfl rfl (fun hG => (q_indexAddr_rs sl57 rfl rfl rfl (by (have hg0 := T.bool_inj (a := _) hG.1; (try simp only [decide_eq_true_eq, decide_eq_false_iff_not, Bool.and_eq_true, Bool.or_eq_true, Bool.and_eq_false_iff, Bool.or_eq_false_iff, Bool.not_eq_true', Bool.not_eq_false', Bool.not_true, Bool.not_false, bif_and, bif_or, Bool.not_not, ne_eq, Decidable.not_not, not_true_eq_false, not_false_eq_true, Int.not_le, Int.not_lt] at hg0); omega)) (by (have hg0 := T.bool_inj (a := _) hG.1; (try simp only [decide_eq_true_eq, decide_eq_false_iff_not, Bool.and_eq_true, Bool.or_eq_true, Bool.and_eq_false_iff, Bool.or_eq_false_iff, Bool.not_eq_true', Bool.not_eq_false', Bool.not_true, Bool.not_false, bif_and, bif_or, Bool.not_not, ne_eq, Decidable.not_not, not_true_eq_false, not_false_eq_true, Int.not_le, Int.not_lt] at hg0); omega)))) ?_
        first | refine rg_g rfl rfl (fun hG => (q_load sz9 rfl rfl)) ?_ | refine rg_g rfl rfl (fun hG => (q_load_ref sz9 rfl rfl rfl)) ?_ | refine rg_g rfl rfl (fun hG => (q_load_tb (x := .d _) sz9 rfl rfl rfl)) ?_ | refine rg_g rfl rfl (fun hG => (q_load_tb (x := .rs _) sz9 rfl rfl rfl)) ?_
        first | refine rg_g rfl rfl (fun hG => (q_call en20 (.cons rfl (.cons rfl .nil)) rfl (trim_p (pcN s k)))) ?_ | refine rg_g rfl rfl (fun hG => (q_callF en20 (.cons (by first | exact .d _ | exact .rs rfl | exact .ref rfl | exact .nil _ | exact .tref rfl (by repeat (first | exact .nil | refine .cons (.d _ rfl) ?_ | refine .cons (.rs rfl) ?_))) (.cons (by first | exact .d _ | exact .rs rfl | exact .ref rfl | exact .nil _ | exact .tref rfl (by repeat (first | exact .nil | refine .cons (.d _ rfl) ?_ | refine .cons (.rs rfl) ?_))) .nil)) rfl (trim_p (pcN s k)) (by first | exact .v _ | exact D.Flat.tupF (by repeat first | exact trivial | refine ⟨.v _, ?_⟩) | exact D.Flat.aggF (by repeat first | exact trivial | refine ⟨.v _, ?_⟩)))) ?_
        refine rg_g rfl rfl (fun hG => (q_len_str str9 rfl)) ?_
        refine rg_g rfl rfl (fun hG => (q_gtr rfl rfl)) ?_
        first | refine rg_pick rfl rfl rfl rfl rfl rfl ?_ | refine rg_q (q_pick rfl rfl rfl) ?_
        refine rg_nil ?_
        refine aops_nil ?_
        change Awp _ _ _ _ _
        refine awp_cond rfl (fun hc10 => ?_) (fun hc10 => ?_)
        ·
          (try simp only [decide_eq_true_eq, decide_eq_false_iff_not, Bool.and_eq_true, Bool.or_eq_true, Bool.and_eq_false_iff, Bool.or_eq_false_iff, Bool.not_eq_true', Bool.not_eq_false', Bool.not_true, Bool.not_false, bif_and, bif_or, Bool.not_not, ne_eq, Decidable.not_not, not_true_eq_false, not_false_eq_true, Int.not_le, Int.not_lt] at hc10)
          have hbad : (numI (pcN s k)).2 = false := by
            rw [an2]
            by_cases q1 : (aI (pcN s k)).2 = true <;> by_cases q2 : Lib.itoa (aI (pcN s k)).1 = (pcN s k).data.toList <;> simp_all [mkB_eq, mkB_size]
          have hz : ev3 numI s = (⟨0, 0, 0⟩, 7) := ev3_bad (by omega) hbad
          refine awp_seq ?_
          refine awp_region 1 mixed (by kernel_rfl) ?_
          refine rg_q (q_build (cs := [_, _, _]) pl23 zr23 rfl .nil trivial rfl) ?_
          refine rg_nil ?_
          first | refine aops_store sz23 rfl rfl (by first | exact .inl rfl | exact .inr ⟨_, rfl⟩) rfl rfl (by first | decide | simp; done | exact Nat.le_of_ble_eq_true rfl) rfl ?_ | refine aops_storeT (z := .rs _) sz23 rfl rfl rfl rfl (by first | decide | simp) rfl ?_ | refine aops_storeT (z := .d _) sz23 rfl rfl rfl rfl (by first | decide | simp) rfl ?_ | refine aops_storeTA sz23 rfl rfl (by first | exact .inl rfl | exact .inr ⟨_, rfl⟩) rfl rfl (by first | decide | simp) rfl ?_
          refine aops_q rfl (q_assign (x := .d (.v _)) rfl) ?_
          refine aops_nil ?_
          change Awp _ _ _ _ _
          refine awp_ret ?_
          refine ⟨_, (.cons (.cellA rfl rfl sz23 rfl) (.cons (.tmp (by first | exact .d _ | exact .rs rfl | exact .ref rfl | exact .tref rfl (.cons (.d _ rfl) (.cons (.rs rfl) .nil)))) .nil)), ?_⟩
          rw [hz]; rfl
        ·
          (try simp only [decide_eq_true_eq, decide_eq_false_iff_not, Bool.and_eq_true, Bool.or_eq_true, Bool.and_eq_false_iff, Bool.or_eq_false_iff, Bool.not_eq_true', Bool.not_eq_false', Bool.not_true, Bool.not_false, bif_and, bif_or, Bool.not_not, ne_eq, Decidable.not_not, not_true_eq_false, not_false_eq_true, Int.not_le, Int.not_lt] at hc10)
          have hgood : (numI (pcN s k)).2 = true := by
            rw [an2]
            by_cases q1 : (aI (pcN s k)).2 = true <;> by_cases q2 : Lib.itoa (aI (pcN s k)).1 = (pcN s k).data.toList <;> simp_all [mkB_eq, mkB_size]
          have hcs := evK_set numI s hlt
          rw [an1] at hcs
          refine awp_skip ?_
          change Awp _ _ _ _ _
          refine awp_region 3 mixed (by kernel_rfl) ?_
          first | refine rg_q (q_move (x := .d (.pt _ _)) rfl) ?_ | refine rg_q (q_move (x := .ref _ _) rfl) ?_ | refine rg_q (q_move (x := .d (.v _)) rfl) ?_ | refine rg_q (q_move (x := .d _) rfl) ?_
          refine rg_q (q_move (x := .d (.v _)) rfl) ?_
          first | refine rg_q (q_nilCheck rfl) ?_ | refine rg_q (q_nilCheck_ref rfl) ?_
          refine rg_nil ?_
          refine aops_store (cs' := evK numI s (k + 1)) sz3 rfl rfl (by first | exact .inl rfl | exact .inr ⟨_, rfl⟩) rfl rfl (by rw [evK_len]; omega) hcs ?_
          refine aops_nil ?_
          change Awp _ _ _ _ _
          refine awp_region 2 mixed (by kernel_rfl) ?_
          refine rg_q (q_add rfl rfl (In64.mk (by omega) (by omega))) ?_
          refine rg_q (q_move (x := .d (.v _)) rfl) ?_
          refine rg_nil ?_
          refine aops_nil ?_
          have hall2 : ∀ j, j < k + 1 → (numI (pcN s j)).2 = true := fun j hj => by
            rcases Nat.lt_succ_iff_lt_or_eq.1 hj with q | q
            · exact hall j q
            · rw [q]; exact hgood
          refine ⟨k + 1, ⟨by omega, hall2⟩, by omega, ?_⟩
          exact le_head (ms := [4]) (by repeat (first | exact Out.refl _ | exact Out.head rfl rfl | (refine Out.put ?_ rfl) | (refine Out.site ?_ rfl) | (refine Out.putn ?_) | (refine Out.headIn ?_ rfl rfl rfl) | (refine Out.called ?_ rfl rfl))) ⟨(by first | rfl | (simp; done)), trivial⟩ ⟨(by first | rfl | (simp; done)), trivial⟩ rfl rfl rfl rfl
      ·
        (try simp only [decide_eq_true_eq, decide_eq_false_iff_not, Bool.and_eq_true, Bool.or_eq_true, Bool.and_eq_false_iff, Bool.or_eq_false_iff, Bool.not_eq_true', Bool.not_eq_false', Bool.not_true, Bool.not_false, bif_and, bif_or, Bool.not_not, ne_eq, Decidable.not_not, not_true_eq_false, not_false_eq_true, Int.not_le, Int.not_lt] at hc7)
        have hk3 : k = 3 := by omega
        subst hk3
        have hz := ev3_good hl3 hall
        refine awp_exit ?_
        change Awp _ _ _ _ _
        refine awp_seq ?_
        refine awp_region 1 mixed (by kernel_rfl) ?_
        first | refine rg_q (q_loadA (ds := [_, _, _]) sz23 rfl rfl rfl) ?_ | refine rg_q (q_load_refA (ds := [_, _, _]) sz23 rfl rfl rfl rfl) ?_
        refine rg_nil ?_
        first | refine aops_store sz23 rfl rfl (by first | exact .inl rfl | exact .inr ⟨_, rfl⟩) rfl rfl (by first | decide | simp; done | exact Nat.le_of_ble_eq_true rfl) rfl ?_ | refine aops_storeT (z := .rs _) sz23 rfl rfl rfl rfl (by first | decide | simp) rfl ?_ | refine aops_storeT (z := .d _) sz23 rfl rfl rfl rfl (by first | decide | simp) rfl ?_ | refine aops_storeTA sz23 rfl rfl (by first | exact .inl rfl | exact .inr ⟨_, rfl⟩) rfl rfl (by first | decide | simp) rfl ?_
        refine aops_q rfl (q_assign (x := .d (.v _)) rfl) ?_
        refine aops_nil ?_
        change Awp _ _ _ _ _
        refine awp_ret ?_
        refine ⟨_, (.cons (.cellA rfl rfl sz23 rfl) (.cons (.tmp (by first | exact .d _ | exact .rs rfl | exact .ref rfl | exact .tref rfl (.cons (.d _ rfl) (.cons (.rs rfl) .nil)))) .nil)), ?_⟩
        rw [hz]; rfl
set_option maxRecDepth 100000 in
theorem rparseEvent_p (s : ByteArray) (hs : s.size ≤ 100000) : PC Tryz.prog 7 [.v (.string (s))] (.tup [.agg (evC (ev3 nmB s).1), .v (.int .i64 (ev3 nmB s).2)]) := by
  obtain ⟨pl1, pl2⟩ := pcs_len s
  refine pc_of_awpN Tryz.func7 rfl Tryz.ntmps7 (rs := [.cell 2 23, .tmp 3]) Tryz.results7 (by simp) fun w0 hmine hrnd hpn => ?_
  refine awp_seq ?_
  refine awp_region 0 mixed (by kernel_rfl) ?_
  refine rg_nil ?_
  refine aops_alloc zr23 rfl rfl rfl ?_
  refine aops_q rfl (q_assign (x := .d (.v _)) rfl) ?_
  refine aops_nil ?_
  change Awp _ _ _ _ _
  refine awp_seq ?_
  refine awp_region 3 mixed (by kernel_rfl) ?_
  refine rg_q (q_move (x := .d (.v _)) rfl) ?_
  first | refine rg_q (q_call en21 (.cons rfl (.cons rfl .nil)) rfl ((by have h := cut_p s (by omega); rw [← pcs_cut] at h; exact h))) ?_ | refine rg_q (q_callF en21 (.cons (by first | exact .d _ | exact .rs rfl | exact .ref rfl | exact .nil _ | exact .tref rfl (by repeat (first | exact .nil | refine .cons (.d _ rfl) ?_ | refine .cons (.rs rfl) ?_))) (.cons (by first | exact .d _ | exact .rs rfl | exact .ref rfl | exact .nil _ | exact .tref rfl (by repeat (first | exact .nil | refine .cons (.d _ rfl) ?_ | refine .cons (.rs rfl) ?_))) .nil)) rfl ((by have h := cut_p s (by omega); rw [← pcs_cut] at h; exact h)) (by first | exact .v _ | exact D.Flat.tupF (by repeat first | exact trivial | refine ⟨.v _, ?_⟩) | exact D.Flat.aggF (by repeat first | exact trivial | refine ⟨.v _, ?_⟩))) ?_
  first | refine rg_q (q_assign (x := .d (.sl _ _)) rfl) ?_ | refine rg_q (q_assign (x := .rs _) rfl) ?_ | refine rg_q (q_assign (x := .d (.v _)) rfl) ?_
  refine rg_nil ?_
  refine aops_nil ?_
  change Awp _ _ _ _ _
  refine awp_seq ?_
  refine awp_seq ?_
  refine awp_region 3 mixed (by kernel_rfl) ?_
  first | refine rg_q (q_move (x := .d (.sl _ _)) rfl) ?_ | refine rg_q (q_move (x := .rs _) rfl) ?_ | refine rg_q (q_move (x := .d (.v _)) rfl) ?_
  first | refine rg_q (q_len isl57 rfl (by first | exact len_map _ _ | rfl)) ?_ | refine rg_q (q_len_rs isl57 rfl rfl) ?_ | refine rg_q (q_len_nil isl57 rfl) ?_
  refine rg_q (q_neq rfl rfl) ?_
  refine rg_nil ?_
  refine aops_nil ?_
  change Awp _ _ _ _ _
  first | refine awp_len (t := 11) rfl (fun hl11 => ?_) | skip
  (try simp only [List.length_map] at hl11)
  refine awp_cond rfl (fun hc2 => ?_) (fun hc2 => ?_)
  ·
    (try simp only [decide_eq_true_eq, decide_eq_false_iff_not, Bool.and_eq_true, Bool.or_eq_true, Bool.and_eq_false_iff, Bool.or_eq_false_iff, Bool.not_eq_true', Bool.not_eq_false', Bool.not_true, Bool.not_false, bif_and, bif_or, Bool.not_not, ne_eq, Decidable.not_not, not_true_eq_false, not_false_eq_true, Int.not_le, Int.not_lt] at hc2)
    have hz : ev3 nmB s = (⟨0, 0, 0⟩, 7) := ev3_len (by (try simp only [List.length_map] at hc2); omega)
    refine awp_seq ?_
    refine awp_region 1 mixed (by kernel_rfl) ?_
    refine rg_q (q_build (cs := [_, _, _]) pl23 zr23 rfl .nil trivial rfl) ?_
    refine rg_nil ?_
    first | refine aops_store sz23 rfl rfl (by first | exact .inl rfl | exact .inr ⟨_, rfl⟩) rfl rfl (by first | decide | simp; done | exact Nat.le_of_ble_eq_true rfl) rfl ?_ | refine aops_storeT (z := .rs _) sz23 rfl rfl rfl rfl (by first | decide | simp) rfl ?_ | refine aops_storeT (z := .d _) sz23 rfl rfl rfl rfl (by first | decide | simp) rfl ?_ | refine aops_storeTA sz23 rfl rfl (by first | exact .inl rfl | exact .inr ⟨_, rfl⟩) rfl rfl (by first | decide | simp) rfl ?_
    refine aops_q rfl (q_assign (x := .d (.v _)) rfl) ?_
    refine aops_nil ?_
    change Awp _ _ _ _ _
    refine awp_ret ?_
    refine ⟨_, (.cons (.cellA rfl rfl sz23 rfl) (.cons (.tmp (by first | exact .d _ | exact .rs rfl | exact .ref rfl | exact .tref rfl (.cons (.d _ rfl) (.cons (.rs rfl) .nil)))) .nil)), ?_⟩
    rw [hz]; rfl
  ·
    (try simp only [decide_eq_true_eq, decide_eq_false_iff_not, Bool.and_eq_true, Bool.or_eq_true, Bool.and_eq_false_iff, Bool.or_eq_false_iff, Bool.not_eq_true', Bool.not_eq_false', Bool.not_true, Bool.not_false, bif_and, bif_or, Bool.not_not, ne_eq, Decidable.not_not, not_true_eq_false, not_false_eq_true, Int.not_le, Int.not_lt] at hc2)
    have hl3 : (pcs s).length = 3 := by (try simp only [List.length_map] at hc2); omega
    refine awp_skip ?_
    change Awp _ _ _ _ _
    refine awp_seq ?_
    refine awp_region 0 mixed (by kernel_rfl) ?_
    refine rg_nil ?_
    refine aops_alloc zr65 rfl rfl rfl ?_
    refine aops_nil ?_
    change Awp _ _ _ _ _
    refine awp_seq ?_
    refine awp_seq ?_
    refine awp_region 1 mixed (by kernel_rfl) ?_
    refine rg_q (q_assign (x := .d (.v _)) rfl) ?_
    refine rg_nil ?_
    refine aops_nil ?_
    change Awp _ _ _ _ _
    refine awp_block ?_
    refine awp_loopH [3, 6, 7, 8, 15, 16, 17, 18, 19, 20, 21, 22, 23, 24, 25, 26, 27, 28, 29, 30, 31, 32] [5] (α := Nat) (fun k => [(6, T.i (k : Int))]) (fun k => [(5, .box (evK nmB s k))]) (fun k => k ≤ 3 ∧ ∀ j, j < k → (nmB (pcN s j)).2 = true) (fun k => 3 - k) 0 ⟨by omega, fun j h => by omega⟩ ?_ ?_
    · exact le_head (ms := [5]) (by repeat (first | exact Out.refl _ | exact Out.head rfl rfl | (refine Out.put ?_ rfl) | (refine Out.site ?_ rfl) | (refine Out.putn ?_) | (refine Out.headIn ?_ rfl rfl rfl) | (refine Out.called ?_ rfl rfl))) ⟨(by first | rfl | (simp; done)), trivial⟩ ⟨(by first | rfl | (simp; done)), trivial⟩ rfl rfl rfl rfl
    ·
      intro k ⟨hk, hall⟩
      refine awp_seq ?_
      refine awp_seq ?_
      refine awp_region 2 mixed (by kernel_rfl) ?_
      refine rg_q (q_move (x := .d (.v _)) rfl) ?_
      refine rg_q (q_lss rfl rfl) ?_
      refine rg_nil ?_
      refine aops_nil ?_
      change Awp _ _ _ _ _
      refine awp_cond rfl (fun hc6 => ?_) (fun hc6 => ?_)
      ·
        (try simp only [decide_eq_true_eq, decide_eq_false_iff_not, Bool.and_eq_true, Bool.or_eq_true, Bool.and_eq_false_iff, Bool.or_eq_false_iff, Bool.not_eq_true', Bool.not_eq_false', Bool.not_true, Bool.not_false, bif_and, bif_or, Bool.not_not, ne_eq, Decidable.not_not, not_true_eq_false, not_false_eq_true, Int.not_le, Int.not_lt] at hc6)
        have hlt : k < 3 := by omega
        have hy := pcN_at (s := s) (k := k) (by omega)
        have hys := pcs_le (List.mem_of_getElem? hy)
        refine awp_skip ?_
        change Awp _ _ _ _ _
        refine awp_seq ?_
        refine awp_block ?_
        refine awp_seq ?_
        refine awp_region 10 mixed (by kernel_rfl) ?_
        first | refine rg_q (q_move (x := .d (.sl _ _)) rfl) ?_ | refine rg_q (q_move (x := .rs _) rfl) ?_ | refine rg_q (q_move (x := .d (.v _)) rfl) ?_
        refine rg_q (q_move (x := .d (.v _)) rfl) ?_
        first | refine rg_q (q_indexAddr sl57 rfl rfl (by omega) (map_at (by omega) hy)) ?_ | refine rg_q (q_indexAddr_rs sl57 rfl rfl rfl (by omega) (by omega)) ?_
        first | refine rg_q (q_load sz9 rfl rfl) ?_ | refine rg_q (q_load_ref sz9 rfl rfl rfl) ?_ | refine rg_q (q_load_tb (x := .d _) sz9 rfl rfl rfl) ?_ | refine rg_q (q_load_tb (x := .rs _) sz9 rfl rfl rfl) ?_
        first | refine rg_q (q_call en22 (.cons rfl (.cons rfl .nil)) rfl (rnumber_p (pcN s k) (by omega))) ?_ | refine rg_q (q_callF en22 (.cons (by first | exact .d _ | exact .rs rfl | exact .ref rfl | exact .nil _ | exact .tref rfl (by repeat (first | exact .nil | refine .cons (.d _ rfl) ?_ | refine .cons (.rs rfl) ?_))) (.cons (by first | exact .d _ | exact .rs rfl | exact .ref rfl | exact .nil _ | exact .tref rfl (by repeat (first | exact .nil | refine .cons (.d _ rfl) ?_ | refine .cons (.rs rfl) ?_))) .nil)) rfl (rnumber_p (pcN s k) (by omega)) (by first | exact .v _ | exact D.Flat.tupF (by repeat first | exact trivial | refine ⟨.v _, ?_⟩) | exact D.Flat.aggF (by repeat first | exact trivial | refine ⟨.v _, ?_⟩))) ?_
        refine rg_q (q_move (x := .d (.tup _)) rfl) ?_
        refine rg_q (q_extract rfl rfl) ?_
        refine rg_q (q_extract rfl rfl) ?_
        refine rg_q (q_assign (x := .d (.v _)) rfl) ?_
        refine rg_q (q_assign (x := .d (.v _)) rfl) ?_
        refine rg_nil ?_
        refine aops_nil ?_
        change Awp _ _ _ _ _
        refine awp_seq ?_
        refine awp_seq ?_
        refine awp_region 2 mixed (by kernel_rfl) ?_
        refine rg_q (q_move (x := .d (.v _)) rfl) ?_
        refine rg_q (q_not rfl) ?_
        refine rg_nil ?_
        refine aops_nil ?_
        change Awp _ _ _ _ _
        refine awp_cond rfl (fun hc9 => ?_) (fun hc9 => ?_)
        ·
          (try simp only [decide_eq_true_eq, decide_eq_false_iff_not, Bool.and_eq_true, Bool.or_eq_true, Bool.and_eq_false_iff, Bool.or_eq_false_iff, Bool.not_eq_true', Bool.not_eq_false', Bool.not_true, Bool.not_false, bif_and, bif_or, Bool.not_not, ne_eq, Decidable.not_not, not_true_eq_false, not_false_eq_true, Int.not_le, Int.not_lt] at hc9)
          have hz : ev3 nmB s = (⟨0, 0, 0⟩, 7) := ev3_bad (k := k) (by omega) (by simpa [nmB] using hc9)
          refine awp_seq ?_
          refine awp_region 1 mixed (by kernel_rfl) ?_
          refine rg_q (q_build (cs := [_, _, _]) pl23 zr23 rfl .nil trivial rfl) ?_
          refine rg_nil ?_
          first | refine aops_store sz23 rfl rfl (by first | exact .inl rfl | exact .inr ⟨_, rfl⟩) rfl rfl (by first | decide | simp; done | exact Nat.le_of_ble_eq_true rfl) rfl ?_ | refine aops_storeT (z := .rs _) sz23 rfl rfl rfl rfl (by first | decide | simp) rfl ?_ | refine aops_storeT (z := .d _) sz23 rfl rfl rfl rfl (by first | decide | simp) rfl ?_ | refine aops_storeTA sz23 rfl rfl (by first | exact .inl rfl | exact .inr ⟨_, rfl⟩) rfl rfl (by first | decide | simp) rfl ?_
          refine aops_q rfl (q_assign (x := .d (.v _)) rfl) ?_
          refine aops_nil ?_
          change Awp _ _ _ _ _
          refine awp_ret ?_
          refine ⟨_, (.cons (.cellA rfl rfl sz23 rfl) (.cons (.tmp (by first | exact .d _ | exact .rs rfl | exact .ref rfl | exact .tref rfl (.cons (.d _ rfl) (.cons (.rs rfl) .nil)))) .nil)), ?_⟩
          rw [hz]; rfl
        ·
          (try simp only [decide_eq_true_eq, decide_eq_false_iff_not, Bool.and_eq_true, Bool.or_eq_true, Bool.and_eq_false_iff, Bool.or_eq_false_iff, Bool.not_eq_true', Bool.not_eq_false', Bool.not_true, Bool.not_false, bif_and, bif_or, Bool.not_not, ne_eq, Decidable.not_not, not_true_eq_false, not_false_eq_true, Int.not_le, Int.not_lt] at hc9)
          have hgood : (nmB (pcN s k)).2 = true := by simpa [nmB] using hc9
          have hcs := evK_set nmB s hlt
          refine awp_skip ?_
          change Awp _ _ _ _ _
          refine awp_region 3 mixed (by kernel_rfl) ?_
          refine rg_q (q_move (x := .d (.v _)) rfl) ?_
          refine rg_q (q_move (x := .d (.v _)) rfl) ?_
          first | refine rg_q (q_indexAddr_ar ar65 rfl rfl (by omega) (by omega)) ?_ | refine rg_q (q_indexAddr_aref ar65 rfl rfl (by omega) (by omega)) ?_
          refine rg_nil ?_
          refine aops_store (cs' := evK nmB s (k + 1)) sz3 rfl rfl (by first | exact .inl rfl | exact .inr ⟨_, rfl⟩) rfl rfl (by rw [evK_len]; show 0 + (k : Int).toNat * 1 + 1 ≤ 3; omega) (by rw [show 0 + (k : Int).toNat * 1 = k by omega]; exact hcs) ?_
          refine aops_nil ?_
          change Awp _ _ _ _ _
          refine awp_region 3 mixed (by kernel_rfl) ?_
          refine rg_q (q_move (x := .d (.v _)) rfl) ?_
          refine rg_q (q_add rfl rfl (In64.mk (by omega) (by omega))) ?_
          refine rg_q (q_assign (x := .d (.v _)) rfl) ?_
          refine rg_nil ?_
          refine aops_nil ?_
          have hall2 : ∀ j, j < k + 1 → (nmB (pcN s j)).2 = true := fun j hj => by
            rcases Nat.lt_succ_iff_lt_or_eq.1 hj with q | q
            · exact hall j q
            · rw [q]; exact hgood
          refine ⟨k + 1, ⟨by omega, hall2⟩, by omega, ?_⟩
          exact le_head (ms := [5]) (by repeat (first | exact Out.refl _ | exact Out.head rfl rfl | (refine Out.put ?_ rfl) | (refine Out.site ?_ rfl) | (refine Out.putn ?_) | (refine Out.headIn ?_ rfl rfl rfl) | (refine Out.called ?_ rfl rfl))) ⟨(by first | rfl | (simp; done)), trivial⟩ ⟨(by first | rfl | (simp; done)), trivial⟩ rfl rfl rfl rfl
      ·
        (try simp only [decide_eq_true_eq, decide_eq_false_iff_not, Bool.and_eq_true, Bool.or_eq_true, Bool.and_eq_false_iff, Bool.or_eq_false_iff, Bool.not_eq_true', Bool.not_eq_false', Bool.not_true, Bool.not_false, bif_and, bif_or, Bool.not_not, ne_eq, Decidable.not_not, not_true_eq_false, not_false_eq_true, Int.not_le, Int.not_lt] at hc6)
        have hk3 : k = 3 := by omega
        subst hk3
        have hz := ev3_good hl3 hall
        refine awp_exit ?_
        change Awp _ _ _ _ _
        refine awp_seq ?_
        refine awp_region 7 mixed (by kernel_rfl) ?_
        first | refine rg_q (q_indexAddr_ar ar65 rfl rfl (by omega) (by omega)) ?_ | refine rg_q (q_indexAddr_aref ar65 rfl rfl (by omega) (by omega)) ?_
        first | refine rg_q (q_load sz3 rfl rfl) ?_ | refine rg_q (q_load_ref sz3 rfl rfl rfl) ?_ | refine rg_q (q_load_tb (x := .d _) sz3 rfl rfl rfl) ?_ | refine rg_q (q_load_tb (x := .rs _) sz3 rfl rfl rfl) ?_
        first | refine rg_q (q_indexAddr_ar ar65 rfl rfl (by omega) (by omega)) ?_ | refine rg_q (q_indexAddr_aref ar65 rfl rfl (by omega) (by omega)) ?_
        first | refine rg_q (q_load sz3 rfl rfl) ?_ | refine rg_q (q_load_ref sz3 rfl rfl rfl) ?_ | refine rg_q (q_load_tb (x := .d _) sz3 rfl rfl rfl) ?_ | refine rg_q (q_load_tb (x := .rs _) sz3 rfl rfl rfl) ?_
        first | refine rg_q (q_indexAddr_ar ar65 rfl rfl (by omega) (by omega)) ?_ | refine rg_q (q_indexAddr_aref ar65 rfl rfl (by omega) (by omega)) ?_
        first | refine rg_q (q_load sz3 rfl rfl) ?_ | refine rg_q (q_load_ref sz3 rfl rfl rfl) ?_ | refine rg_q (q_load_tb (x := .d _) sz3 rfl rfl rfl) ?_ | refine rg_q (q_load_tb (x := .rs _) sz3 rfl rfl rfl) ?_
        refine rg_q (q_build (cs := [_, _, _]) pl23 zr23 rfl (.cons rfl (by first | exact .inl rfl | exact .inr ⟨_, rfl⟩) (.cons rfl (by first | exact .inl rfl | exact .inr ⟨_, rfl⟩) (.cons rfl (by first | exact .inl rfl | exact .inr ⟨_, rfl⟩) .nil))) ⟨⟨rfl, by decide⟩, ⟨rfl, by decide⟩, ⟨rfl, by decide⟩, trivial⟩ rfl) ?_
        refine rg_nil ?_
        first | refine aops_store sz23 rfl rfl (by first | exact .inl rfl | exact .inr ⟨_, rfl⟩) rfl rfl (by first | decide | simp; done | exact Nat.le_of_ble_eq_true rfl) rfl ?_ | refine aops_storeT (z := .rs _) sz23 rfl rfl rfl rfl (by first | decide | simp) rfl ?_ | refine aops_storeT (z := .d _) sz23 rfl rfl rfl rfl (by first | decide | simp) rfl ?_ | refine aops_storeTA sz23 rfl rfl (by first | exact .inl rfl | exact .inr ⟨_, rfl⟩) rfl rfl (by first | decide | simp) rfl ?_
        refine aops_q rfl (q_assign (x := .d (.v _)) rfl) ?_
        refine aops_nil ?_
        change Awp _ _ _ _ _
        refine awp_ret ?_
        refine ⟨_, (.cons (.cellA rfl rfl sz23 rfl) (.cons (.tmp (by first | exact .d _ | exact .rs rfl | exact .ref rfl | exact .tref rfl (.cons (.d _ rfl) (.cons (.rs rfl) .nil)))) .nil)), ?_⟩
        rw [hz]; rfl
end Go.Proofs.YtepaabbfindaeaaGreatDoor.Am.M
