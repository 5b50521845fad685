/- Contracts over the abstract machine: lists of what a sequence yields: slices.AppendSeq, slices.Collect. Conditions: none. -/
import Derived.Test.YtblbnagdhcpnoaaK9
set_option linter.unusedVariables false
set_option linter.unusedSimpArgs false
-- mini
namespace Go.Proofs.Ytblbnagdhcpnoaa.Am.M
open Go

section
variable {P : Program} {w0 : Cx} {ops : List Oper} {rest : List Oper} {R : Exit → St → Prop} {st : St} {ty : TypeId} {pos : String} {after : Array Edge}
/-- A variable that holds a row of the call's own. -/
theorem aops_boxR {d k : Nat} {e : TypeId} {y : Operand} (hy : st.ev y = .rs k) (hd : Nat.blt d st.n = true) (hs : st.s d = .no) (h : Aops P w0 ops rest R ((st.site d (.tbox [.rs k])).put (some d) (.ref d 0))) :
    Aops P w0 ops (⟨some d, .box e y, ty, pos, after, none⟩ :: rest) R st := by
  refine aops_step (K := fun s => s = (st.site d (.tbox [.rs k])).put (some d) (.ref d 0)) rfl (fun a w ⟨blk, val, hh⟩ => ?_) (fun _ e => e ▸ h)
  have hr : RepT w (okOf w0 blk) blk val st.s (.rs k) (a.eval y) := hy ▸ hh.ev y
  have ho : (a.eval y).oneCell' = true := hr.one hh.site rfl
  have hc : (a.eval y).cells.toList = [a.eval y] := one_cells ho
  have hE : Ext w (w.alloc (.cells (a.eval y).cells e)) := (Ext.refl w).alloc _
  refine wp_value (v := .pointer (some ⟨w.heap.size, 0, none⟩)) (w' := w.alloc (.cells (a.eval y).cells e)) (by simp [execOp, Instr.box, newVar, newRow]) ⟨_, rfl, ?_⟩
  have hsz : (a.eval y).cells.size = 1 := by have := congrArg List.length hc; simpa using this
  have hH := hh.allocSite (k := d) (x := .tbox [.rs k]) (u := undef) (o := .cells (a.eval y).cells e) hs ⟨w.heap.size, e, (a.eval y).cells, rfl, new_block _ _, hsz, fun j x hx => by
      match j, hx with
      | 0, hx =>
        cases hx
        refine ⟨a.eval y, ?_, ho, (hr.ok' (ok' := fun b => okOf w0 blk b ∧ b ≠ w.heap.size) fun b hb h => ⟨h, by omega⟩).ext hE⟩
        have : (a.eval y).cells.toList[0]? = some (a.eval y) := by rw [hc]; rfl
        simpa using this⟩
    (fun cs hcs z hz j hj => by
      cases hcs
      rw [List.mem_singleton.1 hz] at hj
      rcases hj with hj | ⟨o, hj⟩ | ⟨_, _, _, hj⟩
      · cases hj
        obtain ⟨⟨e, sz, es, q⟩, _⟩ := hr
        rw [q]; simp
      · cases hj
      · cases hj)
  exact ⟨_, _, put_hold hH (by simpa [Nat.blt_eq, St.site] using hd) ⟨by simp [St.site], w.heap.size, by simp, rfl⟩⟩
theorem repLT_d {w : World} {ok : Nat → Prop} {blk blk' : Nat → Option Nat} {val val' : Nat → Value} {s s' : Nat → Site} : ∀ {ds : List D} {vs : List Value}, RepLT w ok blk val s (ds.map T.d) vs → RepLT w ok blk' val' s' (ds.map T.d) vs
  | [], [], _ => trivial
  | _ :: _, _ :: _, ⟨h1, h2⟩ => ⟨h1, repLT_d h2⟩
  | [], _ :: _, h => h.elim
  | _ :: _, [], h => h.elim
/-- A function that is handed a row is handed none. -/
theorem pcs_nil {f : FuncId} {ds : List D} {e sz : Nat} {r : T} {ss' : List Site} (h : PCS P f (.rs 0 :: ds.map T.d) [.row e sz []] r ss') : PCS P f (.d (.v (.slice none 0 0)) :: ds.map T.d) [] r ss' := by
  intro w ok blk val vs hblk hinj hnone hsite hL
  cases vs with
  | nil => exact hL.elim
  | cons v vs =>
    obtain ⟨h1, h2⟩ := hL
    have hv : v = .slice none 0 0 := Rep.v_eq (show Rep w ok (.v (.slice none 0 0)) v from h1)
    have := h w ok blk (fun _ => .slice none 0 0) (v :: vs) hblk hinj (fun i _ => hnone i (Nat.zero_le _)) (fun i => by
      cases i with
      | zero => exact ⟨fun i x hx => by simp at hx, fun i x j d hx => by simp at hx, .inl ⟨hnone 0 (Nat.zero_le _), rfl, rfl⟩⟩
      | succ i => exact hnone (i + 1) (Nat.zero_le _)) ⟨⟨⟨e, sz, [], rfl⟩, hv⟩, repLT_d h2⟩
    refine this.mono ?_
    rintro ee w' ⟨v2, blk', val', q1, q2, q3⟩
    exact ⟨v2, blk', val', q1, fun i hi => (by cases hi), q3⟩
/-- A call that makes memory, and is handed nil first. -/
theorem aops_callK {dst : Option Tmp} {f : FuncId} {ys : List Operand} {at_ : Array TypeId} {ds : List D} {ss' : List Site} {r : T} (ks : List Nat)
    (he : enB P f = true) (hr : PCS P f (.d (.v (.slice none 0 0)) :: ds.map T.d) [] r ss') (ha : Args st.ev st.s ys ds) (hc : (nodupN ks && Nat.beq ks.length ss'.length && belowT ss'.length r && ss'.all (belowS ss'.length)) = true)
    (hnew : ∀ i, i < ss'.length → st.s (nth ks i) = .no) (hd : (match dst with | none => true | some d => Nat.blt d st.n) = true) (hf : ∀ x ∈ ss', FlatS x) (hfr : FlatT r)
    (h : Aops P w0 ops rest R ((afterS st ks [] ss').put dst (shiftT (nth ks) r))) : Aops P w0 ops (⟨dst, .call ⟨.value (.func f), (.const (.slice none 0 0) :: ys).toArray, at_⟩, ty, pos, after, none⟩ :: rest) R st := by
  refine aops_callW ks [] he hr ?_ rfl rfl (fun i hi => by simp at hi) (fun i _ hi => hnew i hi) hd (fun a w blk val hh => ⟨fun _ => True, fun _ _ => trivial, fun i b hi => by simp at hi, ⟨Rep.v _ rfl, repLT_of (args_repF (fun y => hh.ev y) hh.site ha)⟩, .inr ⟨hf, hfr⟩⟩) h
  simp only [Bool.and_eq_true] at hc
  obtain ⟨⟨⟨h1, h2⟩, h3⟩, h4⟩ := hc
  simp [callOk, h1, h2, h3, h4]
  refine ⟨rfl, fun x _ => rfl⟩
end

theorem ptnC_flat (x : (Int × Int) × Int) : ∀ d ∈ ptnC x, D.Flat d := by
  intro d hd
  simp only [ptnC, List.mem_cons, List.not_mem_nil, or_false] at hd
  rcases hd with rfl | rfl | rfl <;> exact .v _
set_option maxRecDepth 100000 in
theorem appendSeq_p (L l : List ((Int × Int) × Int)) (g : FuncId) (cap : List D) (hen : enB Try.prog g = true) (hit : PI Try.prog g [] cap encN l) (hl : L.length + l.length ≤ 100000) : PCS Try.prog 102 [.rs 0, .d (.fn (.func g) cap)] [.row 49 3 (L.map ptnC)] (.rs 0) [.row 49 3 ((L ++ l).map ptnC)] := by
  refine pcs_of_awpR Try.func102 rfl Try.ntmps102 (rs := [.tmp 4]) Try.results102 (by simp) (getS_rows rfl) fun w0 hrnd hpn => ?_
  refine awp_seq ?_
  refine awp_region 0 mixed (by kernel_rfl) ?_
  refine rg_nil ?_
  refine aops_boxR rfl rfl rfl ?_
  refine aops_q rfl (q_assign (x := .d (.sl _ _)) rfl) ?_
  refine aops_nil ?_
  change Awp _ _ _ _ _
  refine awp_seq ?_
  refine awp_seq ?_
  refine awp_region 1 mixed (by kernel_rfl) ?_
  refine rg_q (q_move (x := .d (.fn _ _)) rfl) ?_
  refine rg_nil ?_
  refine aops_nil ?_
  change Awp _ _ _ _ _
  refine awp_block ?_
  refine awp_rangeC (α := (Int × Int) × Int) (β := Nat) (n := 13) (enc := encN) (items := l) 1000 [(2, .ref 2 0), (6, .d (.fn (.func g) cap))] (fun x => [(2, .tbox [.rs 13]), (13, .row 49 3 ((L ++ l.take x).map ptnC))]) (fun k x => x = k ∧ k ≤ l.length) (fun e x => False) 0 hrnd ?_ (.inr ⟨rfl, rfl⟩) hen hit rfl (fun _ => rfl) rfl (fun _ => by repeat first | exact trivial | refine ⟨by exact D.Flat.aggF (by repeat first | exact trivial | refine ⟨.v _, ?_⟩), ?_⟩) (fun _ => rfl) ⟨rfl, Nat.zero_le _⟩ (fun h => by cases h) ?_ ?_ ?_
  · exact le_cst (fun k => k) _ _ rfl ⟨(by rfl), (by rfl), trivial⟩ ⟨(by rfl), (by (show Site.row _ _ _ = Site.row _ _ _; simp; done)), trivial⟩ rfl (fun k b h => by rw [hpn k] at h; cases h)
  ·
    intro w1 hw1 k x y hI hy
    obtain ⟨rfl, hk⟩ := hI
    have hxl : x < l.length := (List.getElem?_eq_some_iff.1 hy).1
    have hs1 : ((L ++ l.take x).map ptnC) ++ [ptnC y] = (L ++ l.take (x + 1)).map ptnC := by
      rw [List.take_succ_eq_append_getElem hxl, (List.getElem?_eq_some_iff.1 hy).2]; simp
    have htl : (l.take x).length ≤ l.length := by rw [List.length_take]; omega
    refine awp_region 0 mixed (by kernel_rfl) ?_
    refine rg_nil ?_
    refine aops_alloc zr49 rfl rfl rfl ?_
    refine aops_store sz49 rfl rfl (by exact .inr ⟨_, rfl⟩) rfl rfl (by decide) rfl ?_
    refine aops_nil ?_
    refine ⟨rfl, fun w2 hw2 => ?_⟩
    refine awp_block ?_
    refine awp_region 3 mixed (by kernel_rfl) ?_
    refine rg_q (q_load_tb (x := .rs _) sz41 rfl rfl rfl) ?_
    refine rg_q (q_load_refA (ds := [_, _, _]) sz49 rfl rfl rfl rfl) ?_
    refine rg_q (q_buildSlice sl41 zr49 rfl rfl (by decide) (.cons rfl (by exact .inr ⟨_, rfl⟩) .nil) ⟨rfl, rfl, trivial⟩ rfl (by decide) rfl) ?_
    refine rg_nil ?_
    refine aops_append sl41 zr49 by49 rfl (by decide) rfl rfl rfl rfl (by (try simp only [List.length_map, List.length_append, List.length_cons, List.length_nil]); omega) (by (try simp only [List.length_map, List.length_append, List.length_cons, List.length_nil]); omega) rfl rfl ?_
    refine aops_storeT (z := .rs _) sz41 rfl rfl rfl rfl (by decide) rfl ?_
    refine aops_nil ?_
    refine .inl ⟨rfl, x + 1, ⟨rfl, hxl⟩, ?_⟩
    exact le_round [] _ hw2 rfl ⟨(by rfl), (by (show Site.row _ _ _ = Site.row _ _ _; rw [← hs1]; rfl)), trivial⟩ rfl
  ·
    intro x hI
    obtain ⟨rfl, _⟩ := hI
    rw [List.take_length]
    change Awp _ _ _ _ _
    refine awp_seq ?_
    refine awp_region 2 mixed (by kernel_rfl) ?_
    refine rg_q (q_load_tb (x := .rs _) sz41 rfl rfl rfl) ?_
    refine rg_q (q_assign (x := .rs _) rfl) ?_
    refine rg_nil ?_
    refine aops_nil ?_
    change Awp _ _ _ _ _
    refine awp_ret ?_
    exact end_mk (.inl rfl) [13] (.tmp rfl) (by repeat (first | exact trivial | refine ⟨rfl, ?_⟩)) rfl
  ·
    exact fun e x h => h.elim
set_option maxRecDepth 100000 in
theorem collect_p (l : List ((Int × Int) × Int)) (g : FuncId) (cap : List D) (hen : enB Try.prog g = true) (hit : PI Try.prog g [] cap encN l) (hl : l.length ≤ 100000) : PC Try.prog 58 [.fn (.func g) cap] (.sl 3 (l.map ptnC)) := by
  refine pc_of_awp Try.func58 rfl Try.ntmps58 (rs := [.tmp 2]) Try.results58 (by simp) fun w0 => ?_
  refine awp_seq ?_
  refine awp_region 1 mixed (by kernel_rfl) ?_
  refine rg_q (q_assign (x := .d (.sl _ _)) rfl) ?_
  refine rg_nil ?_
  refine aops_nil ?_
  change Awp _ _ _ _ _
  refine awp_seq ?_
  refine awp_region 1 mixed (by kernel_rfl) ?_
  refine rg_q (q_move (x := .d (.fn _ _)) rfl) ?_
  refine rg_nil ?_
  refine aops_callK [4] en102 (pcs_nil (e := 49) (sz := 3) (ds := [.fn (.func g) cap]) (appendSeq_p [] l g cap hen hit (by simpa using hl))) (.cons (by exact .d _) .nil) rfl (newS.none rfl rfl) rfl (fun s hs => by rcases List.mem_singleton.1 hs with rfl; exact flat_row ptnC 49 3 l ptnC_flat) trivial ?_
  refine aops_q rfl (q_assign (x := .rs _) rfl) ?_
  refine aops_nil ?_
  change Awp _ _ _ _ _
  refine awp_ret ?_
  refine ⟨_, (.cons (.tmp (by exact .rs rfl)) .nil), ?_⟩
  rfl

theorem flw_ok {x : Flw} (h : flwE x = 0) : FlwOk x := by
  unfold flwE at h
  by_cases h1 : ¬ (0 ≤ x.kd ∧ x.kd ≤ 1)
  · rw [if_pos h1] at h; cases h
  rw [if_neg h1] at h
  have hk := Decidable.not_not.1 h1
  by_cases h2 : flwE0 x ≠ 0
  · rw [if_pos h2] at h; exact absurd h h2
  rw [if_neg h2] at h
  have h3 := Decidable.not_not.1 h2
  unfold flwE0 at h3
  rw [first_zero] at h3
  simp only [List.mem_cons, List.not_mem_nil, or_false, forall_eq_or_imp, forall_eq] at h3
  obtain ⟨a1, a2⟩ := h3
  have a3 := (when_zero (show (2 : Int) ≠ 0 by decide)).1 a2
  rw [spot_ok] at a1
  simp [inR] at a1 a3
  refine ⟨hk, by omega, by omega, by omega, fun hk0 => ?_⟩
  rw [if_neg hk0] at h
  unfold planeE at h
  rw [first_zero] at h
  simp only [List.mem_cons, List.not_mem_nil, or_false, forall_eq_or_imp, forall_eq] at h
  obtain ⟨b1, b2, _⟩ := h
  have b3 := (when_zero (show (2 : Int) ≠ 0 by decide)).1 b2
  rw [spot_ok] at b1
  simp [inR] at b1 b3
  omega
theorem ptsL_len {x : Flw} (h : FlwOk x) : (ptsL x).length ≤ 21 := by
  unfold ptsL
  split
  · simp
  · rename_i hk
    have := (h.pl hk).2.2.1
    unfold ptsTo
    rw [List.length_map, List.length_range]; omega
def pofR (x : Flw) : List ((Int × Int) × Int) × Int := if flwE x ≠ 0 then ([], flwE x) else (ptsL x, 0)
set_option maxRecDepth 100000 in
theorem pointsOf_p (x : Flw) : PC Try.prog 17 [.agg (flwC x)] (.tup [.sl 3 ((pofR x).1.map ptnC), .v (.int .i64 ((pofR x).2))]) := by
  refine pc_of_awp Try.func17 rfl Try.ntmps17 (rs := [.tmp 2, .tmp 3]) Try.results17 (by simp) fun w0 => ?_
  refine awp_seq ?_
  refine awp_region 3 mixed (by kernel_rfl) ?_
  refine rg_q (q_box rfl (by exact .inr ⟨_, rfl⟩)) ?_
  refine rg_q (q_assign_nil) ?_
  refine rg_q (q_assign (x := .d (.v _)) rfl) ?_
  refine rg_nil ?_
  refine aops_nil ?_
  change Awp _ _ _ _ _
  refine awp_seq ?_
  refine awp_seq ?_
  refine awp_region 3 mixed (by kernel_rfl) ?_
  refine rg_q (q_loadA (ds := [_, _, _, _, _, _, _, _]) sz40 rfl rfl rfl) ?_
  refine rg_q (q_call en19 (.cons rfl .nil) rfl (checkFlaw_p _)) ?_
  refine rg_q (q_assign (x := .d (.v _)) rfl) ?_
  refine rg_nil ?_
  refine aops_nil ?_
  change Awp _ _ _ _ _
  refine awp_seq ?_
  refine awp_region 2 mixed (by kernel_rfl) ?_
  refine rg_q (q_move (x := .d (.v _)) rfl) ?_
  refine rg_q (q_neq rfl rfl) ?_
  refine rg_nil ?_
  refine aops_nil ?_
  change Awp _ _ _ _ _
  refine awp_cond rfl (fun hc2 => ?_) (fun hc2 => ?_)
  ·
    (try simp only [decide_eq_true_eq, decide_eq_false_iff_not, Bool.and_eq_true, Bool.or_eq_true, Bool.and_eq_false_iff, Bool.or_eq_false_iff, Bool.not_eq_true', Bool.not_eq_false', Bool.not_true, Bool.not_false, bif_and, bif_or, Bool.not_not, ne_eq, Decidable.not_not, not_true_eq_false, not_false_eq_true, Int.not_le, Int.not_lt] at hc2)
    have hz : pofR x = ([], flwE x) := by unfold pofR; rw [if_pos hc2]
    refine awp_seq ?_
    refine awp_region 3 mixed (by kernel_rfl) ?_
    refine rg_q (q_move (x := .d (.v _)) rfl) ?_
    refine rg_q (q_assign_nil) ?_
    refine rg_q (q_assign (x := .d (.v _)) rfl) ?_
    refine rg_nil ?_
    refine aops_nil ?_
    change Awp _ _ _ _ _
    refine awp_ret ?_
    refine ⟨_, (.cons (.tmp (by exact .nil 3)) (.cons (.tmp (by exact .d _)) .nil)), ?_⟩
    rw [hz]; rfl
  ·
    (try simp only [decide_eq_true_eq, decide_eq_false_iff_not, Bool.and_eq_true, Bool.or_eq_true, Bool.and_eq_false_iff, Bool.or_eq_false_iff, Bool.not_eq_true', Bool.not_eq_false', Bool.not_true, Bool.not_false, bif_and, bif_or, Bool.not_not, ne_eq, Decidable.not_not, not_true_eq_false, not_false_eq_true, Int.not_le, Int.not_lt] at hc2)
    have h0 : flwE x = 0 := by omega
    have hok := flw_ok h0
    have hz : pofR x = (ptsL x, 0) := by unfold pofR; rw [if_neg (fun q => q h0)]
    refine awp_skip ?_
    change Awp _ _ _ _ _
    refine awp_seq ?_
    refine awp_region 5 mixed (by kernel_rfl) ?_
    refine rg_q (q_loadA (ds := [_, _, _, _, _, _, _, _]) sz40 rfl rfl rfl) ?_
    refine rg_q (q_call en59 (.cons rfl .nil) rfl (points_p _)) ?_
    refine rg_q (q_call en58 (.cons rfl .nil) rfl (collect_p (ptsL x) 103 [.pt (flwC x) 0] en103 (points_i x hok) (by have := ptsL_len hok; omega))) ?_
    refine rg_q (q_assign (x := .d (.sl _ _)) rfl) ?_
    refine rg_q (q_assign (x := .d (.v _)) rfl) ?_
    refine rg_nil ?_
    refine aops_nil ?_
    change Awp _ _ _ _ _
    refine awp_ret ?_
    refine ⟨_, (.cons (.tmp (by exact .d _)) (.cons (.tmp (by exact .d _)) .nil)), ?_⟩
    rw [hz]; rfl
end Go.Proofs.Ytblbnagdhcpnoaa.Am.M
