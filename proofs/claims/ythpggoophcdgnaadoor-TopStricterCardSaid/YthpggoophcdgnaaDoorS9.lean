/- Contracts over the abstract machine: chapter 9: trying changes. Conditions: none. -/
import Derived.Test.YthpggoophcdgnaaDoorS8
set_option linter.unusedVariables false
set_option linter.unusedSimpArgs false
-- mini
namespace Go.Proofs.YthpggoophcdgnaaDoor.Am.M
open Go

section
variable {P : Program} {w0 : Cx} {ops : List Oper} {rest : List Oper} {R : Exit → St → Prop} {st : St} {ty : TypeId} {pos : String} {after : Array Edge}
theorem aops_boxR {d k o : Nat} {e : TypeId} {y : Operand} (hy : st.ev y = .ref k o) (hd : Nat.blt d st.n = true) (hs : st.s d = .no) (h : Aops P w0 ops rest R ((st.site d (.tbox [.ref k o])).put (some d) (.ref d 0))) :
    Aops P w0 ops (⟨some d, .box e y, ty, pos, after, none⟩ :: rest) R st := by
  refine aops_step (K := fun s => s = (st.site d (.tbox [.ref k o])).put (some d) (.ref d 0)) rfl (fun a w ⟨blk, val, hh⟩ => ?_) (fun _ e => e ▸ h)
  have hr : RepT w (okOf w0 blk) blk val st.s (.ref k o) (a.eval y) := hy ▸ hh.ev y
  have ho : (a.eval y).oneCell' = true := hr.one hh.site rfl
  have hc : (a.eval y).cells.toList = [a.eval y] := one_cells ho
  have hE : Ext w (w.alloc (.cells (a.eval y).cells e)) := (Ext.refl w).alloc _
  refine wp_value (v := .pointer (some ⟨w.heap.size, 0, none⟩)) (w' := w.alloc (.cells (a.eval y).cells e)) (by simp [execOp, Instr.box, newVar, newRow]) ⟨_, rfl, ?_⟩
  have hsz : (a.eval y).cells.size = 1 := by have := congrArg List.length hc; simpa using this
  have hH := hh.allocSite (k := d) (x := .tbox [.ref k o]) (u := undef) (o := .cells (a.eval y).cells e) hs ⟨w.heap.size, e, (a.eval y).cells, rfl, new_block _ _, hsz, fun j x hx => by
      match j, hx with
      | 0, hx =>
        cases hx
        refine ⟨a.eval y, ?_, ho, (hr.ok' (ok' := fun b => okOf w0 blk b ∧ b ≠ w.heap.size) fun b hb h => ⟨h, by omega⟩).ext hE⟩
        have : (a.eval y).cells.toList[0]? = some (a.eval y) := by rw [hc]; rfl
        simpa using this⟩
    (fun cs hcs z hz j hj => by
      cases hcs
      rw [List.mem_singleton.1 hz] at hj
      rcases hj with hj | ⟨o, hj⟩ | ⟨_, _, _, hj⟩
      · cases hj
      · cases hj; exact hr.1
      · cases hj)
  exact ⟨_, _, put_hold hH (by simpa [Nat.blt_eq, St.site] using hd) ⟨by simp [St.site], w.heap.size, by simp, rfl⟩⟩
end
def wtH (w : Wi) (i : Nat) (x : Cl) : Int := if w.at i = 0 then x.lo else x.hi
def tryF (l : List Rw) (w : Wi) : Nat → Nat → Mk → Int → Nat → Ch → Ch
  | 0, _, m, cost, s, c => if (accB l s && beB c m cost) = true then ⟨m, cost, true⟩ else c
  | n + 1, i, m, cost, s, c => (cells l (3 + i) (0, w.m.at (3 + i)) s).foldl (fun c x => tryF l w n (i + 1) (m.set (3 + i) (wtH w i x)) (cost + (w.m.at (3 + i) - wtH w i x) * w.at i) (s &&& x.inn) c) c
structure WiOk (w : Wi) : Prop where
  m : ∀ q, q < 6 → 0 ≤ w.m.at q ∧ w.m.at q ≤ 100000
  w : ∀ i, i < 3 → 0 ≤ w.at i ∧ w.at i ≤ 100
structure TryOk (l : List Rw) (i : Nat) (cost : Int) (s : Nat) : Prop where
  c : 0 ≤ cost ∧ cost ≤ 10000000 * (i : Int)
  s : s < 2 ^ l.length
def TryP (l : List Rw) (w : Wi) (n i : Nat) : Prop := ∀ (m : Mk) (cost : Int) (s : Nat) (c : Ch), TryOk l i cost s →
  PCSG Tryd.prog NGB GB 38 [.ref 0 0, .d (.v (.int .i64 (i : Int))), .d (.agg (mkC m)), .d (.v (.int .i64 cost)), .d (.v (.int .u64 (s : Int)))] [.box (chC l w c)] (.d (.tup [])) [.box (chC l w (tryF l w n i m cost s c))]
set_option maxRecDepth 100000 in
theorem try0_p (l : List Rw) (w : Wi) (m : Mk) (cost : Int) (s : Nat) (c : Ch) (hl : l.length ≤ 7) (hs : s < 2 ^ l.length) : PCSG Tryd.prog NGB GB 38 [.ref 0 0, .d (.v (.int .i64 (3))), .d (.agg (mkC m)), .d (.v (.int .i64 (cost))), .d (.v (.int .u64 ((s : Nat) : Int)))] [.box (chC l w c)] (.d (.tup [])) [.box (chC l w (tryF l w 0 3 m cost s c))] := by
  have hs64 : s < 18446744073709551616 := Nat.lt_of_lt_of_le hs (Nat.pow_le_pow_right (by decide) (Nat.le_trans hl (by decide : 7 ≤ 64)))
  have hcz : s ≠ 0 → ctz s < l.length := fun h => ctz_lt h hs (by omega)
  refine pcsg_of_awpY gb_low Tryd.func38 rfl Tryd.ntmps38 (rs := []) Tryd.results38 (by simp) rfl fun w0 hrnd hGB hNG hmp hpd => ?_
  have hG : ∀ w, ExtM w0 w → GW w := fun w h => (hGB w h).1
  refine awp_seq ?_
  refine awp_region 0 mixed (by kernel_rfl) ?_
  refine rg_nil ?_
  refine aops_boxR rfl rfl rfl ?_
  refine aops_q rfl (q_box rfl (by exact .inl rfl)) ?_
  refine aops_box rfl (by exact .inr ⟨_, rfl⟩) rfl rfl rfl ?_
  refine aops_q rfl (q_box rfl (by exact .inl rfl)) ?_
  refine aops_q rfl (q_box rfl (by exact .inl rfl)) ?_
  refine aops_nil ?_
  change Awp _ _ _ _ _
  refine awp_seq ?_
  refine awp_seq ?_
  refine awp_region 2 mixed (by kernel_rfl) ?_
  refine rg_q (q_load sz3 rfl rfl) ?_
  refine rg_q (q_eql rfl rfl) ?_
  refine rg_nil ?_
  refine aops_nil ?_
  change Awp _ _ _ _ _
  refine awp_cond rfl (fun hc1 => ?_) (fun hc1 => ?_)
  ·
    (try simp only [nb, ne_eq] at hc1)
    refine awp_seq ?_
    refine awp_seq ?_
    refine awp_region 12 mixed (by kernel_rfl) ?_
    refine rg_q (q_load_tb (x := .ref _ _) sz83 rfl rfl rfl) ?_
    refine rg_q (q_nilCheck_ref rfl) ?_
    refine rg_q (q_fieldAddr_ref fld85_0 rfl) ?_
    refine rg_q (q_load_ref sz68 rfl rfl rfl) ?_
    refine rg_q (q_load sz73 rfl rfl) ?_
    refine rg_q (q_callG en34 (.cons rfl (.cons rfl .nil)) rfl hG (accepts_p l s hs64 hcz)) ?_
    refine rg_q (q_move (x := .d (.v _)) rfl) ?_
    refine rg_g rfl rfl (fun hG => (q_load_tb (x := .ref _ _) sz83 rfl rfl rfl)) ?_
    refine rg_g rfl rfl (fun hG => (q_load_refA (ds := [_, _, _, _, _, _]) sz27 rfl rfl rfl rfl)) ?_
    refine rg_g rfl rfl (fun hG => (q_load sz3 rfl rfl)) ?_
    refine rg_g rfl rfl (fun hG => (q_callF en53 (.cons (by exact .ref rfl) (.cons (by exact .d _) (.cons (by exact .d _) .nil))) rfl (better_p _ _ _ _ _) (by exact .v _))) ?_
    refine rg_pick rfl rfl rfl rfl rfl rfl ?_
    refine rg_nil ?_
    refine aops_nil ?_
    change Awp _ _ _ _ _
    refine awp_cond rfl (fun hc2 => ?_) (fun hc2 => ?_)
    ·
      have hz : tryF l w 0 3 m cost s c = ⟨m, cost, true⟩ := if_pos (by simpa [bif_and] using hc2)
      refine awp_regionL 7 7 [1, 2, 4] mixed (by kernel_rfl) ?_
      refine rg_q (q_load_tb (x := .ref _ _) sz83 rfl rfl rfl) ?_
      refine rg_q (q_load_tb (x := .ref _ _) sz83 rfl rfl rfl) ?_
      refine rg_q (q_load_tb (x := .ref _ _) sz83 rfl rfl rfl) ?_
      refine rg_q (q_load_refA (ds := [_, _, _, _, _, _]) sz27 rfl rfl rfl rfl) ?_
      refine rg_q (q_load sz3 rfl rfl) ?_
      refine rg_q (q_nilCheck_ref rfl) ?_
      refine rg_q (q_fieldAddr_ref fld85_2 rfl) ?_
      refine rg_nil ?_
      refine late_set (c_store sz27 rfl rfl (by exact .inr ⟨_, rfl⟩) rfl rfl (by exact Nat.le_of_ble_eq_true rfl) rfl) ?_ ?_
      · refine fl_cons rfl rfl rfl (c_q (q_load_tb (x := .ref _ _) sz83 rfl rfl rfl)) ?_
        refine fl_cons rfl rfl rfl (c_q (q_load_tb (x := .ref _ _) sz83 rfl rfl rfl)) ?_
        refine fl_cons rfl rfl rfl (c_q (q_load sz3 rfl rfl)) ?_
        exact fl_nil
      refine late_q (q_nilCheck_ref rfl) ?_ ?_
      · refine fl_cons rfl rfl rfl (c_q (q_load_tb (x := .ref _ _) sz83 rfl rfl rfl)) ?_
        refine fl_cons rfl rfl rfl (c_q (q_load_tb (x := .ref _ _) sz83 rfl rfl rfl)) ?_
        refine fl_cons rfl rfl rfl (c_q (q_load sz3 rfl rfl)) ?_
        exact fl_nil
      refine late_q (q_fieldAddr_ref fld85_3 rfl) ?_ ?_
      · refine fl_cons rfl rfl rfl (c_q (q_load_tb (x := .ref _ _) sz83 rfl rfl rfl)) ?_
        refine fl_cons rfl rfl rfl (c_q (q_load_tb (x := .ref _ _) sz83 rfl rfl rfl)) ?_
        refine fl_cons rfl rfl rfl (c_q (q_load sz3 rfl rfl)) ?_
        exact fl_nil
      refine late_set (c_store sz3 rfl rfl (by exact .inl rfl) rfl rfl (by exact Nat.le_of_ble_eq_true rfl) rfl) ?_ ?_
      · refine fl_cons rfl rfl rfl (c_q (q_load_tb (x := .ref _ _) sz83 rfl rfl rfl)) ?_
        refine fl_cons rfl rfl rfl (c_q (q_load_tb (x := .ref _ _) sz83 rfl rfl rfl)) ?_
        refine fl_cons rfl rfl rfl (c_q (q_load sz3 rfl rfl)) ?_
        exact fl_nil
      refine late_q (q_nilCheck_ref rfl) ?_ ?_
      · refine fl_cons rfl rfl rfl (c_q (q_load_tb (x := .ref _ _) sz83 rfl rfl rfl)) ?_
        refine fl_cons rfl rfl rfl (c_q (q_load_tb (x := .ref _ _) sz83 rfl rfl rfl)) ?_
        refine fl_cons rfl rfl rfl (c_q (q_load sz3 rfl rfl)) ?_
        exact fl_nil
      refine late_q (q_fieldAddr_ref fld85_4 rfl) ?_ ?_
      · refine fl_cons rfl rfl rfl (c_q (q_load_tb (x := .ref _ _) sz83 rfl rfl rfl)) ?_
        refine fl_cons rfl rfl rfl (c_q (q_load_tb (x := .ref _ _) sz83 rfl rfl rfl)) ?_
        refine fl_cons rfl rfl rfl (c_q (q_load sz3 rfl rfl)) ?_
        exact fl_nil
      refine late_set (c_store sz4 rfl rfl (by exact .inl rfl) rfl rfl (by exact Nat.le_of_ble_eq_true rfl) rfl) ?_ ?_
      · refine fl_cons rfl rfl rfl (c_q (q_load_tb (x := .ref _ _) sz83 rfl rfl rfl)) ?_
        refine fl_cons rfl rfl rfl (c_q (q_load_tb (x := .ref _ _) sz83 rfl rfl rfl)) ?_
        refine fl_cons rfl rfl rfl (c_q (q_load sz3 rfl rfl)) ?_
        exact fl_nil
      refine late_nil ?_
      refine aops_nil ?_
      change Awp _ _ _ _ _
      refine awp_ret ?_
      exact endx_mk (.inl rfl) _ [104] .nil rfl (by repeat (first | exact trivial | refine ⟨(by rw [hz]; rfl), ?_⟩)) rfl
    ·
      have hz : tryF l w 0 3 m cost s c = c := if_neg (by simpa [bif_and] using hc2)
      refine awp_skip ?_
      change Awp _ _ _ _ _
      refine awp_ret ?_
      exact endx_mk (.inl rfl) _ [104] .nil rfl (by repeat (first | exact trivial | refine ⟨(by rw [hz]; rfl), ?_⟩)) rfl
  ·
    cases hc1

def tryG (l : List Rw) (w : Wi) (n i : Nat) (m : Mk) (cost : Int) (s : Nat) : Ch → Cl → Ch := fun c x => tryF l w n (i + 1) (m.set (3 + i) (wtH w i x)) (cost + (w.m.at (3 + i) - wtH w i x) * w.at i) (s &&& x.inn) c
theorem tryF_succ (l : List Rw) (w : Wi) (n i : Nat) (m : Mk) (cost : Int) (s : Nat) (c : Ch) : tryF l w (n + 1) i m cost s c = (cells l (3 + i) (0, w.m.at (3 + i)) s).foldl (tryG l w n i m cost s) c := rfl
theorem foldl_take {α β : Type} (g : β → α → β) (c : β) {l : List α} {k : Nat} {y : α} (h : l[k]? = some y) : (l.take (k + 1)).foldl g c = g ((l.take k).foldl g c) y := by
  rw [List.take_add_one, h, List.foldl_append]; rfl
theorem clF_in {l : List Rw} (hok : RwsOk l) {q : Nat} (hq : q < 6) {whi : Int} {s : Nat} : ∀ {n : Nat} {lo : Int} {y : Cl}, y ∈ clF l q whi s n lo → lo ≤ y.lo ∧ y.lo ≤ y.hi ∧ y.hi ≤ whi ∧ y.inn < 2 ^ l.length
  | 0, _, _, h => by cases h
  | n + 1, lo, y, h => by
    rw [clF] at h
    split at h
    · rename_i hle
      obtain ⟨h1, h2, h3⟩ := cellK_bnd hok hq s hle l.length
      rcases List.mem_cons.1 h with rfl | h
      · exact ⟨Int.le_refl _, h1, h2, h3⟩
      · obtain ⟨q1, q2⟩ := clF_in hok hq h
        have : lo ≤ (clN l q whi s lo).hi := h1
        exact ⟨by omega, q2⟩
    · cases h
theorem cells_in {l : List Rw} (hok : RwsOk l) {q : Nat} (hq : q < 6) {w : Int × Int} {s : Nat} {y : Cl} (h : y ∈ cells l q w s) : w.1 ≤ y.lo ∧ y.lo ≤ y.hi ∧ y.hi ≤ w.2 ∧ y.inn < 2 ^ l.length := clF_in hok hq h
theorem lt3 {i : Nat} (h : i < 3) : i = 0 ∨ i = 1 ∨ i = 2 := by omega
theorem ls_at {i : Nat} (h : i < 3) : lsL[0 + (i : Int).toNat * 1]? = some (.int .i64 ((3 + i : Nat) : Int)) := by
  rcases lt3 h with rfl | rfl | rfl <;> rfl
theorem ch_mk (l : List Rw) (w : Wi) (c : Ch) {i : Nat} (h : i < 3) : (chC l w c)[0 + 1 + 0 + ((3 + i : Nat) : Int).toNat * 1]? = some (iv (w.m.at (3 + i))) := by
  rcases lt3 h with rfl | rfl | rfl <;> rfl
theorem ch_wt (l : List Rw) (w : Wi) (c : Ch) {i : Nat} (h : i < 3) : (chC l w c)[0 + 1 + 6 + (i : Int).toNat * 1]? = some (iv (w.at i)) := by
  rcases lt3 h with rfl | rfl | rfl <;> rfl
theorem mk_self (m : Mk) {k : Nat} (h : k < 6) : mkC (m.set k (m.at k)) = mkC m := by
  rcases lt6 h with rfl | rfl | rfl | rfl | rfl | rfl <;> rfl
theorem mk_set2 (m : Mk) {k : Nat} (z x : Int) (h : k < 6) : setCs (mkC (m.set k z)) (0 + (k : Int).toNat * 1) [iv x] = mkC (m.set k x) := by
  rcases lt6 h with rfl | rfl | rfl | rfl | rfl | rfl <;> rfl
theorem mk_get (m : Mk) {k : Nat} (x : Int) (h : k < 6) : (mkC (m.set k x))[0 + (k : Int).toNat * 1]? = some (iv x) := by
  rcases lt6 h with rfl | rfl | rfl | rfl | rfl | rfl <;> rfl
set_option maxRecDepth 100000 in
theorem tryS_p (l : List Rw) (w : Wi) (n i : Nat) (hi : i + (n + 1) = 3) (ih : TryP l w n (i + 1)) (m : Mk) (cost : Int) (s : Nat) (c : Ch) (hl : l.length ≤ 7) (hok : RwsOk l) (hw : WiOk w) (ht : TryOk l i cost s) : PCSG Tryd.prog NGB GB 38 [.ref 0 0, .d (.v (.int .i64 ((i : Int)))), .d (.agg (mkC m)), .d (.v (.int .i64 (cost))), .d (.v (.int .u64 ((s : Nat) : Int)))] [.box (chC l w c)] (.d (.tup [])) [.box (chC l w (tryF l w (n + 1) i m cost s c))] := by
  have hs := ht.s
  have hs64 : s < 18446744073709551616 := Nat.lt_of_lt_of_le hs (Nat.pow_le_pow_right (by decide) (Nat.le_trans hl (by decide : 7 ≤ 64)))
  have hi3 : i < 3 := by omega
  have hq6 : 3 + i < 6 := by omega
  obtain ⟨hm1, hm2⟩ := hw.m (3 + i) hq6
  obtain ⟨hw1, hw2⟩ := hw.w i hi3
  obtain ⟨hc1_, hc2_⟩ := ht.c
  have hi4 : (i : Int) < 3 := by omega
  refine pcsg_of_awpY gb_low Tryd.func38 rfl Tryd.ntmps38 (rs := []) Tryd.results38 (by simp) rfl fun w0 hrnd hGB hNG hmp hpd => ?_
  have hG : ∀ w, ExtM w0 w → GW w := fun w h => (hGB w h).1
  refine awp_seq ?_
  refine awp_region 0 mixed (by kernel_rfl) ?_
  refine rg_nil ?_
  refine aops_boxR rfl rfl rfl ?_
  refine aops_q rfl (q_box rfl (by exact .inl rfl)) ?_
  refine aops_box rfl (by exact .inr ⟨_, rfl⟩) rfl rfl rfl ?_
  refine aops_q rfl (q_box rfl (by exact .inl rfl)) ?_
  refine aops_q rfl (q_box rfl (by exact .inl rfl)) ?_
  refine aops_nil ?_
  change Awp _ _ _ _ _
  refine awp_seq ?_
  refine awp_seq ?_
  refine awp_region 2 mixed (by kernel_rfl) ?_
  refine rg_q (q_load sz3 rfl rfl) ?_
  refine rg_q (q_eql rfl rfl) ?_
  refine rg_nil ?_
  refine aops_nil ?_
  change Awp _ _ _ _ _
  refine awp_cond rfl (fun hc1 => ?_) (fun hc1 => ?_)
  ·
    exact absurd hc1 (by simp; omega)
  ·
    (try simp only [nb, ne_eq] at hc1)
    refine awp_skip ?_
    change Awp _ _ _ _ _
    refine awp_seq ?_
    refine awp_region 3 mixed (by kernel_rfl) ?_
    refine rg_q (q_load sz3 rfl rfl) ?_
    refine rg_q (q_indexAddr_glob (i := (i : Int)) ar28 rfl (by omega) (by omega)) ?_
    refine rg_q (q_load_glob (u := .int .i64 ((3 + i : Nat) : Int)) sz3 rfl (fun w hw => (hG w hw).2.1 _ _ (ls_at hi3)) rfl) ?_
    refine rg_nil ?_
    refine aops_allocD zr3 rfl sz3 rfl rfl (by exact .inl rfl) rfl rfl ?_
    refine aops_nil ?_
    change Awp _ _ _ _ _
    refine awp_seq ?_
    refine awp_region 15 mixed (by kernel_rfl) ?_
    refine rg_q (q_load_tb (x := .ref _ _) sz83 rfl rfl rfl) ?_
    refine rg_q (q_nilCheck_ref rfl) ?_
    refine rg_q (q_fieldAddr_ref fld85_0 rfl) ?_
    refine rg_q (q_load_ref sz68 rfl rfl rfl) ?_
    refine rg_q (q_load sz3 rfl rfl) ?_
    refine rg_q (q_load_tb (x := .ref _ _) sz83 rfl rfl rfl) ?_
    refine rg_q (q_load sz3 rfl rfl) ?_
    refine rg_q (q_nilCheck_ref rfl) ?_
    refine rg_q (q_fieldAddr_ref fld85_1 rfl) ?_
    refine rg_q (q_fieldAddr_ref fld30_0 rfl) ?_
    refine rg_q (q_indexAddr_aref ar27 rfl rfl (by omega) (by omega)) ?_
    refine rg_q (q_load_ref sz3 rfl rfl (ch_mk l w c hi3)) ?_
    refine rg_q (q_build (cs := [_, _]) pl39 zr39 rfl (.cons rfl (by exact .inl rfl) .nil) ⟨⟨rfl, by decide⟩, trivial⟩ rfl) ?_
    refine rg_q (q_load sz73 rfl rfl) ?_
    refine rg_q (q_call en54 (.cons rfl (.cons rfl (.cons rfl (.cons rfl .nil)))) rfl (cells_p l (3 + i) (0, w.m.at (3 + i)) s)) ?_
    refine rg_nil ?_
    refine aops_nil ?_
    change Awp _ _ _ _ _
    refine awp_block ?_
    refine awp_rangeCG (α := Cl) (β := Ch × Int) (n := 104) (enc := encC) (items := cells l (3 + i) (0, w.m.at (3 + i)) s) 1000 [(5, .ref 5 0), (6, .d (.pt [.v (.int .i64 ((i : Int)))] 0)), (7, .ref 7 0), (8, .d (.pt [.v (.int .i64 (cost))] 0)), (9, .d (.pt [.v (.int .u64 ((s : Nat) : Int))] 0)), (10, .d (.pt [.v (.int .i64 (((3 + i : Nat) : Int)))] 0)), (54, .d (.fn (.func 57) [.pt [.v (.int .i64 (0)), .v (.int .i64 (w.m.at (3 + i)))] 0, .pt [.v (.int .u64 ((s : Nat) : Int))] 0, .pt [.sl 13 (l.map rwC)] 0, .pt [.v (.int .i64 (((3 + i : Nat) : Int)))] 0]))] (fun x => [(104, .box (chC l w x.1)), (5, .tbox [.ref 104 0]), (7, .box (mkC (m.set (3 + i) x.2)))]) (fun k x => x.1 = ((cells l (3 + i) (0, w.m.at (3 + i)) s).take k).foldl (tryG l w n i m cost s) c) (fun e x => False) (c, m.at (3 + i)) hrnd ?_ (.inr ⟨rfl, rfl⟩) en57 hG (cells_i l (3 + i) (0, w.m.at (3 + i)) s hok hq6 hl hs ⟨Int.le_refl _, hm2⟩) rfl (fun _ => rfl) rfl (fun _ => by repeat first | exact trivial | refine ⟨by exact D.Flat.aggF (by repeat first | exact trivial | refine ⟨.v _, ?_⟩), ?_⟩) (fun _ => rfl) rfl (fun h => by cases h) ?_ ?_ ?_
    · exact le_cst (fun k => k) _ _ rfl ⟨(by rfl), (by rfl), (by rfl), (by rfl), (by rfl), (by rfl), (by rfl), trivial⟩ ⟨(by rfl), (by rfl), (by (show Site.box _ = Site.box _; rw [mk_self m hq6]; rfl)), trivial⟩ rfl (fun k b h => ⟨rfl, pin_has rfl (hpd k b h)⟩)
    ·
      intro w1 hw1 hx1 k x y hI hy
      obtain ⟨hy1, hy2, hy3, hy4⟩ := cells_in hok hq6 (List.mem_of_getElem? hy)
      have hy64 : y.inn < 18446744073709551616 := Nat.lt_of_lt_of_le hy4 (Nat.pow_le_pow_right (by decide) (Nat.le_trans hl (by decide : 7 ≤ 64)))
      have hk0 : ∀ z, tryG l w n i m cost s x.1 y = z → z = ((cells l (3 + i) (0, w.m.at (3 + i)) s).take (k + 1)).foldl (tryG l w n i m cost s) c := fun z hz => by rw [foldl_take _ _ hy, ← hI]; exact hz.symm
      refine awp_region 0 mixed (by kernel_rfl) ?_
      refine rg_nil ?_
      refine aops_allocD zr109 rfl sz109 rfl rfl (by exact .inr ⟨_, rfl⟩) rfl rfl ?_
      refine aops_nil ?_
      refine ⟨rfl, fun w2 hw2 hx2 => ?_⟩
      have hG := fun w h => hG w (hx2.ext w h)
      have hGB := fun w h => hGB w (hx2.ext w h)
      have hNG := fun b h => hNG b (hx2.our b h)
      have hmw := hx2.mine (fun x k => allVar rfl k)
      refine awp_block ?_
      refine awp_seq ?_
      refine awp_region 5 mixed (by kernel_rfl) ?_
      refine rg_q (q_load sz3 rfl rfl) ?_
      refine rg_q (q_fieldAddr fld109_0 rfl) ?_
      refine rg_q (q_fieldAddr fld39_1 rfl) ?_
      refine rg_q (q_load sz3 rfl rfl) ?_
      refine rg_q (q_indexAddr_aref ar27 rfl rfl (by omega) (by omega)) ?_
      refine rg_nil ?_
      refine aops_store (cs' := mkC (m.set (3 + i) y.hi)) sz3 rfl rfl (by exact .inl rfl) rfl rfl (mk_room _ hq6) (mk_set2 m _ _ hq6) ?_
      refine aops_nil ?_
      change Awp _ _ _ _ _
      refine awp_seq ?_
      refine awp_seq ?_
      refine awp_region 8 mixed (by kernel_rfl) ?_
      refine rg_q (q_load_tb (x := .ref _ _) sz83 rfl rfl rfl) ?_
      refine rg_q (q_load sz3 rfl rfl) ?_
      refine rg_q (q_nilCheck_ref rfl) ?_
      refine rg_q (q_fieldAddr_ref fld85_1 rfl) ?_
      refine rg_q (q_fieldAddr_ref fld30_1 rfl) ?_
      refine rg_q (q_indexAddr_aref ar28 rfl rfl (by omega) (by omega)) ?_
      refine rg_q (q_load_ref sz3 rfl rfl (ch_wt l w x.1 hi3)) ?_
      refine rg_q (q_eql rfl rfl) ?_
      refine rg_nil ?_
      refine aops_nil ?_
      change Awp _ _ _ _ _
      refine awp_cond rfl (fun hc8 => ?_) (fun hc8 => ?_)
      ·
        (try simp only [nb, ne_eq] at hc8)
        have hw0 : w.at i = 0 := by omega
        have hwt : wtH w i y = y.lo := if_pos hw0
        have hp1 : 0 ≤ (w.m.at (3 + i) - y.lo) * w.at i := Int.mul_nonneg (by omega) (by omega)
        have hp2 : (w.m.at (3 + i) - y.lo) * w.at i ≤ 100000 * 100 := Int.mul_le_mul (by omega) (by omega) (by omega) (by omega)
        have hto : TryOk l (i + 1) (cost + (w.m.at (3 + i) - y.lo) * w.at i) (s &&& y.inn) := ⟨by push_cast; omega, Nat.and_lt_two_pow _ hy4⟩
        have hk1 := hk0 (tryF l w n (i + 1) (m.set (3 + i) (y.lo)) (cost + (w.m.at (3 + i) - y.lo) * w.at i) (s &&& y.inn) x.1) (by rw [← hwt]; rfl)
        refine awp_region 5 mixed (by kernel_rfl) ?_
        refine rg_q (q_load sz3 rfl rfl) ?_
        refine rg_q (q_fieldAddr fld109_0 rfl) ?_
        refine rg_q (q_fieldAddr fld39_0 rfl) ?_
        refine rg_q (q_load sz3 rfl rfl) ?_
        refine rg_q (q_indexAddr_aref ar27 rfl rfl (by omega) (by omega)) ?_
        refine rg_nil ?_
        refine aops_store (cs' := mkC (m.set (3 + i) y.lo)) sz3 rfl rfl (by exact .inl rfl) rfl rfl (mk_room _ hq6) (mk_set2 m _ _ hq6) ?_
        refine aops_nil ?_
        change Awp _ _ _ _ _
        refine awp_region 29 mixed (by kernel_rfl) ?_
        refine rg_q (q_load_tb (x := .ref _ _) sz83 rfl rfl rfl) ?_
        refine rg_q (q_load sz3 rfl rfl) ?_
        refine rg_q (q_add rfl rfl (In64.mk (by omega) (by omega))) ?_
        refine rg_q (q_load_refA (ds := [_, _, _, _, _, _]) sz27 rfl rfl rfl rfl) ?_
        refine rg_q (q_load sz3 rfl rfl) ?_
        refine rg_q (q_load_tb (x := .ref _ _) sz83 rfl rfl rfl) ?_
        refine rg_q (q_load sz3 rfl rfl) ?_
        refine rg_q (q_nilCheck_ref rfl) ?_
        refine rg_q (q_fieldAddr_ref fld85_1 rfl) ?_
        refine rg_q (q_fieldAddr_ref fld30_0 rfl) ?_
        refine rg_q (q_indexAddr_aref ar27 rfl rfl (by omega) (by omega)) ?_
        refine rg_q (q_load_ref sz3 rfl rfl (ch_mk l w x.1 hi3)) ?_
        refine rg_q (q_load sz3 rfl rfl) ?_
        refine rg_q (q_indexAddr_aref ar27 rfl rfl (by omega) (by omega)) ?_
        refine rg_q (q_load_ref sz3 rfl rfl (mk_get m _ hq6)) ?_
        refine rg_q (q_sub rfl rfl (In64.mk (by omega) (by omega))) ?_
        refine rg_q (q_load_tb (x := .ref _ _) sz83 rfl rfl rfl) ?_
        refine rg_q (q_load sz3 rfl rfl) ?_
        refine rg_q (q_nilCheck_ref rfl) ?_
        refine rg_q (q_fieldAddr_ref fld85_1 rfl) ?_
        refine rg_q (q_fieldAddr_ref fld30_1 rfl) ?_
        refine rg_q (q_indexAddr_aref ar28 rfl rfl (by omega) (by omega)) ?_
        refine rg_q (q_load_ref sz3 rfl rfl (ch_wt l w x.1 hi3)) ?_
        refine rg_q (q_mul rfl rfl (In64.mk (by omega) (by omega))) ?_
        refine rg_q (q_add rfl rfl (In64.mk (by omega) (by omega))) ?_
        refine rg_q (q_load sz73 rfl rfl) ?_
        refine rg_q (q_fieldAddr fld109_1 rfl) ?_
        refine rg_q (q_load sz73 rfl rfl) ?_
        refine rg_q (q_andN rfl rfl (by omega) (by omega)) ?_
        refine rg_nil ?_
        refine aops_callLG hGB hNG [1104] [] en38 (ih (m.set (3 + i) (y.lo)) (cost + (w.m.at (3 + i) - y.lo) * w.at i) (s &&& y.inn) x.1 hto) (.cons rfl (.cons rfl (.cons rfl (.cons rfl (.cons rfl .nil))))) rfl rfl rfl (by repeat (first | exact trivial | refine ⟨rfl, ?_⟩)) (by repeat (exact trivial)) rfl ?_
        refine aops_nil ?_
        refine .inl ⟨rfl, (tryF l w n (i + 1) (m.set (3 + i) (y.lo)) (cost + (w.m.at (3 + i) - y.lo) * w.at i) (s &&& y.inn) x.1, y.lo), hk1, ?_⟩
        exact le_round [] _ hw2 rfl ⟨(by rfl), (by rfl), (by rfl), trivial⟩ rfl
      ·
        (try simp only [nb, ne_eq] at hc8)
        have hw0 : ¬ w.at i = 0 := by omega
        have hwt : wtH w i y = y.hi := if_neg hw0
        have hp1 : 0 ≤ (w.m.at (3 + i) - y.hi) * w.at i := Int.mul_nonneg (by omega) (by omega)
        have hp2 : (w.m.at (3 + i) - y.hi) * w.at i ≤ 100000 * 100 := Int.mul_le_mul (by omega) (by omega) (by omega) (by omega)
        have hto : TryOk l (i + 1) (cost + (w.m.at (3 + i) - y.hi) * w.at i) (s &&& y.inn) := ⟨by push_cast; omega, Nat.and_lt_two_pow _ hy4⟩
        have hk1 := hk0 (tryF l w n (i + 1) (m.set (3 + i) (y.hi)) (cost + (w.m.at (3 + i) - y.hi) * w.at i) (s &&& y.inn) x.1) (by rw [← hwt]; rfl)
        refine awp_skip ?_
        change Awp _ _ _ _ _
        refine awp_region 29 mixed (by kernel_rfl) ?_
        refine rg_q (q_load_tb (x := .ref _ _) sz83 rfl rfl rfl) ?_
        refine rg_q (q_load sz3 rfl rfl) ?_
        refine rg_q (q_add rfl rfl (In64.mk (by omega) (by omega))) ?_
        refine rg_q (q_load_refA (ds := [_, _, _, _, _, _]) sz27 rfl rfl rfl rfl) ?_
        refine rg_q (q_load sz3 rfl rfl) ?_
        refine rg_q (q_load_tb (x := .ref _ _) sz83 rfl rfl rfl) ?_
        refine rg_q (q_load sz3 rfl rfl) ?_
        refine rg_q (q_nilCheck_ref rfl) ?_
        refine rg_q (q_fieldAddr_ref fld85_1 rfl) ?_
        refine rg_q (q_fieldAddr_ref fld30_0 rfl) ?_
        refine rg_q (q_indexAddr_aref ar27 rfl rfl (by omega) (by omega)) ?_
        refine rg_q (q_load_ref sz3 rfl rfl (ch_mk l w x.1 hi3)) ?_
        refine rg_q (q_load sz3 rfl rfl) ?_
        refine rg_q (q_indexAddr_aref ar27 rfl rfl (by omega) (by omega)) ?_
        refine rg_q (q_load_ref sz3 rfl rfl (mk_get m _ hq6)) ?_
        refine rg_q (q_sub rfl rfl (In64.mk (by omega) (by omega))) ?_
        refine rg_q (q_load_tb (x := .ref _ _) sz83 rfl rfl rfl) ?_
        refine rg_q (q_load sz3 rfl rfl) ?_
        refine rg_q (q_nilCheck_ref rfl) ?_
        refine rg_q (q_fieldAddr_ref fld85_1 rfl) ?_
        refine rg_q (q_fieldAddr_ref fld30_1 rfl) ?_
        refine rg_q (q_indexAddr_aref ar28 rfl rfl (by omega) (by omega)) ?_
        refine rg_q (q_load_ref sz3 rfl rfl (ch_wt l w x.1 hi3)) ?_
        refine rg_q (q_mul rfl rfl (In64.mk (by omega) (by omega))) ?_
        refine rg_q (q_add rfl rfl (In64.mk (by omega) (by omega))) ?_
        refine rg_q (q_load sz73 rfl rfl) ?_
        refine rg_q (q_fieldAddr fld109_1 rfl) ?_
        refine rg_q (q_load sz73 rfl rfl) ?_
        refine rg_q (q_andN rfl rfl (by omega) (by omega)) ?_
        refine rg_nil ?_
        refine aops_callLG hGB hNG [1104] [] en38 (ih (m.set (3 + i) (y.hi)) (cost + (w.m.at (3 + i) - y.hi) * w.at i) (s &&& y.inn) x.1 hto) (.cons rfl (.cons rfl (.cons rfl (.cons rfl (.cons rfl .nil))))) rfl rfl rfl (by repeat (first | exact trivial | refine ⟨rfl, ?_⟩)) (by repeat (exact trivial)) rfl ?_
        refine aops_nil ?_
        refine .inl ⟨rfl, (tryF l w n (i + 1) (m.set (3 + i) (y.hi)) (cost + (w.m.at (3 + i) - y.hi) * w.at i) (s &&& y.inn) x.1, y.hi), hk1, ?_⟩
        exact le_round [] _ hw2 rfl ⟨(by rfl), (by rfl), (by rfl), trivial⟩ rfl
    ·
      intro x hI
      have hz : tryF l w (n + 1) i m cost s c = x.1 := by rw [tryF_succ, hI, List.take_length]
      exact endx_mk (.inr rfl) _ [104] .nil rfl (by repeat (first | exact trivial | refine ⟨(by rw [hz]; rfl), ?_⟩)) rfl
    ·
      exact fun e x h => h.elim
end Go.Proofs.YthpggoophcdgnaaDoor.Am.M
