/- Contracts over the abstract machine, joined. Conditions: none. -/
import Derived.Test.YtamaocfjknpadaaJ2
set_option linter.unusedVariables false
set_option linter.unusedSimpArgs false
-- mini
namespace Go.Proofs.Ytamaocfjknpadaa.Am.M
open Go

section
variable {P : Program} {w0 : Cx} {ops : List Oper} {rest : List Oper} {R : Exit → St → Prop} {st : St} {ty : TypeId} {pos : String} {after : Array Edge}
theorem aops_boxR {d k : Nat} {e : TypeId} {y : Operand} (hy : st.ev y = .rs k) (hd : Nat.blt d st.n = true) (hs : st.s d = .no) (h : Aops P w0 ops rest R ((st.site d (.tbox [.rs k])).put (some d) (.ref d 0))) :
    Aops P w0 ops (⟨some d, .box e y, ty, pos, after, none⟩ :: rest) R st := by
  refine aops_step (K := fun s => s = (st.site d (.tbox [.rs k])).put (some d) (.ref d 0)) rfl (fun a w ⟨blk, val, hh⟩ => ?_) (fun _ e => e ▸ h)
  have hr : RepT w (okOf w0 blk) blk val st.s (.rs k) (a.eval y) := hy ▸ hh.ev y
  have ho : (a.eval y).oneCell' = true := hr.one hh.site rfl
  have hc : (a.eval y).cells.toList = [a.eval y] := one_cells ho
  have hE : Ext w (w.alloc (.cells (a.eval y).cells e)) := (Ext.refl w).alloc _
  refine wp_value (v := .pointer (some ⟨w.heap.size, 0, none⟩)) (w' := w.alloc (.cells (a.eval y).cells e)) (by simp [execOp, Instr.box, newVar, newRow]) ⟨_, rfl, ?_⟩
  have hsz : (a.eval y).cells.size = 1 := by have := congrArg List.length hc; simpa using this
  have hH := hh.allocSite (k := d) (x := .tbox [.rs k]) (u := undef) (o := .cells (a.eval y).cells e) hs ⟨w.heap.size, e, (a.eval y).cells, rfl, new_block _ _, hsz, fun j x hx => by
      match j, hx with
      | 0, hx =>
        cases hx
        refine ⟨a.eval y, ?_, ho, (hr.ok' (ok' := fun b => okOf w0 blk b ∧ b ≠ w.heap.size) fun b hb h => ⟨h, by omega⟩).ext hE⟩
        have : (a.eval y).cells.toList[0]? = some (a.eval y) := by rw [hc]; rfl
        simpa using this⟩
    (fun cs hcs z hz j hj => by
      cases hcs
      rw [List.mem_singleton.1 hz] at hj
      rcases hj with hj | ⟨o, hj⟩ | ⟨_, _, _, hj⟩
      · cases hj
        obtain ⟨⟨e, sz, es, q⟩, _⟩ := hr
        rw [q]; simp
      · cases hj
      · cases hj)
  exact ⟨_, _, put_hold hH (by simpa [Nat.blt_eq, St.site] using hd) ⟨by simp [St.site], w.heap.size, by simp, rfl⟩⟩
theorem repLT_d {w : World} {ok : Nat → Prop} {blk blk' : Nat → Option Nat} {val val' : Nat → Value} {s s' : Nat → Site} : ∀ {ds : List D} {vs : List Value}, RepLT w ok blk val s (ds.map T.d) vs → RepLT w ok blk' val' s' (ds.map T.d) vs
  | [], [], _ => trivial
  | _ :: _, _ :: _, ⟨h1, h2⟩ => ⟨h1, repLT_d h2⟩
  | [], _ :: _, h => h.elim
  | _ :: _, [], h => h.elim
theorem pcs_nil {f : FuncId} {ds : List D} {e sz : Nat} {r : T} {ss' : List Site} (h : PCS P f (.rs 0 :: ds.map T.d) [.row e sz []] r ss') : PCS P f (.d (.v (.slice none 0 0)) :: ds.map T.d) [] r ss' := by
  intro w ok blk val vs hblk hinj hnone hsite hL
  cases vs with
  | nil => exact hL.elim
  | cons v vs =>
    obtain ⟨h1, h2⟩ := hL
    have hv : v = .slice none 0 0 := Rep.v_eq (show Rep w ok (.v (.slice none 0 0)) v from h1)
    have := h w ok blk (fun _ => .slice none 0 0) (v :: vs) hblk hinj (fun i _ => hnone i (Nat.zero_le _)) (fun i => by
      cases i with
      | zero => exact ⟨fun i x hx => by simp at hx, fun i x j d hx => by simp at hx, .inl ⟨hnone 0 (Nat.zero_le _), rfl, rfl⟩⟩
      | succ i => exact hnone (i + 1) (Nat.zero_le _)) ⟨⟨⟨e, sz, [], rfl⟩, hv⟩, repLT_d h2⟩
    refine this.mono ?_
    rintro ee w' ⟨v2, blk', val', q1, q2, q3⟩
    exact ⟨v2, blk', val', q1, fun i hi => (by cases hi), q3⟩
theorem aops_callK {dst : Option Tmp} {f : FuncId} {ys : List Operand} {at_ : Array TypeId} {ds : List D} {ss' : List Site} {r : T} (ks : List Nat)
    (he : enB P f = true) (hr : PCS P f (.d (.v (.slice none 0 0)) :: ds.map T.d) [] r ss') (ha : Args st.ev st.s ys ds) (hc : (nodupN ks && Nat.beq ks.length ss'.length && belowT ss'.length r && ss'.all (belowS ss'.length)) = true)
    (hnew : ∀ i, i < ss'.length → st.s (nth ks i) = .no) (hd : (match dst with | none => true | some d => Nat.blt d st.n) = true) (hf : ∀ x ∈ ss', FlatS x) (hfr : FlatT r)
    (h : Aops P w0 ops rest R ((afterS st ks [] ss').put dst (shiftT (nth ks) r))) : Aops P w0 ops (⟨dst, .call ⟨.value (.func f), (.const (.slice none 0 0) :: ys).toArray, at_⟩, ty, pos, after, none⟩ :: rest) R st := by
  refine aops_callW ks [] he hr ?_ rfl rfl (fun i hi => by simp at hi) (fun i _ hi => hnew i hi) hd (fun a w blk val hh => ⟨fun _ => True, fun _ _ => trivial, fun i b hi => by simp at hi, ⟨Rep.v _ rfl, repLT_of (args_repF (fun y => hh.ev y) hh.site ha)⟩, .inr ⟨hf, hfr⟩⟩) h
  simp only [Bool.and_eq_true] at hc
  obtain ⟨⟨⟨h1, h2⟩, h3⟩, h4⟩ := hc
  simp [callOk, h1, h2, h3, h4]
  refine ⟨rfl, fun x _ => rfl⟩
end

theorem ptnC_flat (x : (Int × Int) × Int) : ∀ d ∈ ptnC x, D.Flat d := by
  intro d hd
  simp only [ptnC, List.mem_cons, List.not_mem_nil, or_false] at hd
  rcases hd with rfl | rfl | rfl <;> exact .v _
set_option maxRecDepth 100000 in
theorem appendSeq_p (L l : List ((Int × Int) × Int)) (g : FuncId) (cap : List D) (hen : enB Try.prog g = true) (hit : PI Try.prog g [] cap encN l) (hl : L.length + l.length ≤ 100000) : PCS Try.prog 73 [.rs 0, .d (.fn (.func g) cap)] [.row 82 3 (L.map ptnC)] (.rs 0) [.row 82 3 ((L ++ l).map ptnC)] := by
 refine pcs_of_awpR Try.func73 rfl Try.ntmps73 (rs := [.tmp 4]) Try.results73 (by simp) (getS_rows rfl) fun w0 hrnd hpn => ?_
 refine awp_seq ?_
 refine awp_region 0 mixed (by kernel_rfl) ?_
 refine rg_nil ?_
 refine aops_boxR rfl rfl rfl ?_
 refine aops_q rfl (q_assign (x := .d (.sl _ _)) rfl) ?_
 refine aops_nil ?_
 change Awp _ _ _ _ _
 refine awp_seq ?_
 refine awp_seq ?_
 refine awp_region 1 mixed (by kernel_rfl) ?_
 refine rg_q (q_move (x := .d (.fn _ _)) rfl) ?_
 refine rn ?_
 change Awp _ _ _ _ _
 refine awp_block ?_
 refine awp_rangeC (α := (Int × Int) × Int) (β := Nat) (n := 13) (enc := encN) (items := l) 1000 [(2, .ref 2 0), (6, .d (.fn (.func g) cap))] (fun x => [(2, .tbox [.rs 13]), (13, .row 82 3 ((L ++ l.take x).map ptnC))]) (fun k x => x = k ∧ k ≤ l.length) (fun e x => False) 0 hrnd ?_ (.inr ⟨rfl, rfl⟩) hen hit rfl (fun _ => rfl) rfl (fun _ => by repeat first | exact trivial | refine ⟨by exact D.Flat.aggF (by repeat first | exact trivial | refine ⟨.v _, ?_⟩), ?_⟩) (fun _ => rfl) ⟨rfl, Nat.zero_le _⟩ (fun h => by cases h) ?_ ?_ ?_
 · exact le_cst (fun k => k) _ _ rfl ⟨(by rfl), (by rfl), trivial⟩ ⟨(by rfl), (by (show Site.row _ _ _ = Site.row _ _ _; simp; done)), trivial⟩ rfl (fun k b h => by rw [hpn k] at h; cases h)
 ·
  intro w1 hw1 k x y hI hy
  obtain ⟨rfl, hk⟩ := hI
  have hxl : x < l.length := (List.getElem?_eq_some_iff.1 hy).1
  have hs1 : ((L ++ l.take x).map ptnC) ++ [ptnC y] = (L ++ l.take (x + 1)).map ptnC := by
   rw [List.take_succ_eq_append_getElem hxl, (List.getElem?_eq_some_iff.1 hy).2]; simp
  have htl : (l.take x).length ≤ l.length := by rw [List.length_take]; omega
  refine awp_region 0 mixed (by kernel_rfl) ?_
  refine rg_nil ?_
  refine aops_alloc zr82 rfl rfl rfl ?_
  refine aops_store sz82 rfl rfl (by exact .inr ⟨_, rfl⟩) rfl rfl (by decide) rfl ?_
  refine aops_nil ?_
  refine ⟨rfl, fun w2 hw2 => ?_⟩
  refine awp_block ?_
  refine awp_region 3 mixed (by kernel_rfl) ?_
  refine rg_q (q_load_tb (x := .rs _) sz77 rfl rfl rfl) ?_
  refine rg_q (q_load_refA (ds := [_, _, _]) sz82 rfl rfl rfl rfl) ?_
  refine rg_q (q_buildSlice sl77 zr82 rfl rfl (by decide) (.cons rfl (by exact .inr ⟨_, rfl⟩) .nil) ⟨rfl, rfl, trivial⟩ rfl (by decide) rfl) ?_
  refine rg_nil ?_
  refine aops_append sl77 zr82 by82 rfl (by decide) rfl rfl rfl rfl (by (try simp only [List.length_map, List.length_append, List.length_cons, List.length_nil]); omega) (by (try simp only [List.length_map, List.length_append, List.length_cons, List.length_nil]); omega) rfl rfl ?_
  refine aops_storeT (z := .rs _) sz77 rfl rfl rfl rfl (by decide) rfl ?_
  refine aops_nil ?_
  refine .inl ⟨rfl, x + 1, ⟨rfl, hxl⟩, ?_⟩
  exact le_round [] _ hw2 rfl ⟨(by rfl), (by (show Site.row _ _ _ = Site.row _ _ _; rw [← hs1]; rfl)), trivial⟩ rfl
 ·
  intro x hI
  obtain ⟨rfl, _⟩ := hI
  rw [List.take_length]
  change Awp _ _ _ _ _
  refine awp_seq ?_
  refine awp_region 2 mixed (by kernel_rfl) ?_
  refine rg_q (q_load_tb (x := .rs _) sz77 rfl rfl rfl) ?_
  refine rg_q (q_assign (x := .rs _) rfl) ?_
  refine rn ?_
  change Awp _ _ _ _ _
  refine awp_ret ?_
  exact end_mk (.inl rfl) [13] (.tmp rfl) (by repeat (first | exact trivial | refine ⟨rfl, ?_⟩)) rfl
 ·
  exact fun e x h => h.elim
set_option maxRecDepth 100000 in
theorem collect_p (l : List ((Int × Int) × Int)) (g : FuncId) (cap : List D) (hen : enB Try.prog g = true) (hit : PI Try.prog g [] cap encN l) (hl : l.length ≤ 100000) : PC Try.prog 59 [.fn (.func g) cap] (.sl 3 (l.map ptnC)) := by
 refine pc_of_awp Try.func59 rfl Try.ntmps59 (rs := [.tmp 2]) Try.results59 (by simp) fun w0 => ?_
 refine awp_seq ?_
 refine awp_region 1 mixed (by kernel_rfl) ?_
 refine rg_q (q_assign (x := .d (.sl _ _)) rfl) ?_
 refine rs (awp_region 1 mixed (by kernel_rfl) ?_)
 refine rg_q (q_move (x := .d (.fn _ _)) rfl) ?_
 refine rg_nil ?_
 refine aops_callK [4] en73 (pcs_nil (e := 82) (sz := 3) (ds := [.fn (.func g) cap]) (appendSeq_p [] l g cap hen hit (by simpa using hl))) (.cons (by exact .d _) .nil) rfl (newS.none rfl rfl) rfl (fun s hs => by rcases List.mem_singleton.1 hs with rfl; exact flat_row ptnC 82 3 l ptnC_flat) trivial ?_
 refine aops_q rfl (q_assign (x := .rs _) rfl) ?_
 refine aops_nil ?_
 change Awp _ _ _ _ _
 refine awp_ret ?_
 refine ⟨_, (.cons (.tmp (by exact .rs rfl)) .nil), ?_⟩
 rfl

theorem flw_ok {x : Flw} (h : flwE x = 0) : FlwOk x := by
  unfold flwE at h
  by_cases h1 : ¬ (0 ≤ x.kd ∧ x.kd ≤ 1)
  · rw [if_pos h1] at h; cases h
  rw [if_neg h1] at h
  have hk := Decidable.not_not.1 h1
  by_cases h2 : flwE0 x ≠ 0
  · rw [if_pos h2] at h; exact absurd h h2
  rw [if_neg h2] at h
  have h3 := Decidable.not_not.1 h2
  unfold flwE0 at h3
  rw [first_zero] at h3
  simp only [List.mem_cons, List.not_mem_nil, or_false, forall_eq_or_imp, forall_eq] at h3
  obtain ⟨a1, a2⟩ := h3
  have a3 := (when_zero (show (2 : Int) ≠ 0 by decide)).1 a2
  rw [spot_ok] at a1
  simp [inR] at a1 a3
  refine ⟨hk, by omega, by omega, by omega, fun hk0 => ?_⟩
  rw [if_neg hk0] at h
  unfold planeE at h
  rw [first_zero] at h
  simp only [List.mem_cons, List.not_mem_nil, or_false, forall_eq_or_imp, forall_eq] at h
  obtain ⟨b1, b2, _⟩ := h
  have b3 := (when_zero (show (2 : Int) ≠ 0 by decide)).1 b2
  rw [spot_ok] at b1
  simp [inR] at b1 b3
  omega
theorem ptsL_len {x : Flw} (h : FlwOk x) : (ptsL x).length ≤ 21 := by
  unfold ptsL
  split
  · simp
  · rename_i hk
    have := (h.pl hk).2.2.1
    unfold ptsTo
    rw [List.length_map, List.length_range]; omega
def pofR (x : Flw) : List ((Int × Int) × Int) × Int := if flwE x ≠ 0 then ([], flwE x) else (ptsL x, 0)
set_option maxRecDepth 100000 in
theorem pointsOf_p (x : Flw) : PC Try.prog 29 [.agg (flwC x)] (.tup [.sl 3 ((pofR x).1.map ptnC), .v (.int .i64 ((pofR x).2))]) := by
 refine pc_of_awp Try.func29 rfl Try.ntmps29 (rs := [.tmp 2, .tmp 3]) Try.results29 (by simp) fun w0 => ?_
 refine awp_seq ?_
 refine awp_region 3 mixed (by kernel_rfl) ?_
 refine rg_q (q_box rfl (by exact .inr ⟨_, rfl⟩)) ?_
 refine rg_q (q_assign_nil) ?_
 refine rg_q (q_a rfl) ?_
 refine rn ?_
 change Awp _ _ _ _ _
 refine awp_seq ?_
 refine awp_seq ?_
 refine awp_region 3 mixed (by kernel_rfl) ?_
 refine rg_q (q_loadA (ds := [_, _, _, _, _, _, _, _]) sz48 rfl rfl rfl) ?_
 refine rg_q (q_call en58 (.cons rfl .nil) rfl (checkFlaw_p _)) ?_
 refine rg_q (q_a rfl) ?_
 refine rs (awp_region 2 mixed (by kernel_rfl) ?_)
 refine rg_q (q_m rfl) (rg_q (q_neq rfl rfl) ?_)
 refine rn ?_
 change Awp _ _ _ _ _
 refine awp_cond rfl (fun hc2 => ?_) (fun hc2 => ?_)
 ·
  (try simp only [nb, ne_eq] at hc2)
  have hz : pofR x = ([], flwE x) := by unfold pofR; rw [if_pos hc2]
  refine awp_seq ?_
  refine awp_region 3 mixed (by kernel_rfl) ?_
  refine rg_q (q_m rfl) ?_
  refine rg_q (q_assign_nil) ?_
  refine rg_q (q_a rfl) ?_
  refine rn ?_
  change Awp _ _ _ _ _
  refine awp_ret ?_
  refine ⟨_, (.cons (.tmp (by exact .nil 3)) (.cons (.tmp (by exact .d _)) .nil)), ?_⟩
  rw [hz]; rfl
 ·
  (try simp only [nb, ne_eq] at hc2)
  have h0 : flwE x = 0 := by omega
  have hok := flw_ok h0
  have hz : pofR x = (ptsL x, 0) := by unfold pofR; rw [if_neg (fun q => q h0)]
  refine awp_skip ?_
  change Awp _ _ _ _ _
  refine awp_seq ?_
  refine awp_region 5 mixed (by kernel_rfl) ?_
  refine rg_q (q_loadA (ds := [_, _, _, _, _, _, _, _]) sz48 rfl rfl rfl) ?_
  refine rg_q (q_call en60 (.cons rfl .nil) rfl (points_p _)) ?_
  refine rg_q (q_call en59 (.cons rfl .nil) rfl (collect_p (ptsL x) 82 [.pt (flwC x) 0] en82 (points_i x hok) (by have := ptsL_len hok; omega))) ?_
  refine rg_q (q_assign (x := .d (.sl _ _)) rfl) (rg_q (q_a rfl) ?_)
  refine rn ?_
  change Awp _ _ _ _ _
  refine awp_ret ?_
  refine ⟨_, (.cons (.tmp (by exact .d _)) (.cons (.tmp (by exact .d _)) .nil)), ?_⟩
  rw [hz]; rfl
end Go.Proofs.Ytamaocfjknpadaa.Am.M
-- mini
namespace Go.Proofs.Ytamaocfjknpadaa.Am.M
open Go

def opnS (s : Spc) (P : List ((Int × Int) × Int)) : List D := arrC s.ar ++ [.sl 1 (s.pl.map iC), .sl 3 (P.map ptnC)]
def ptA (P : List ((Int × Int) × Int)) (k : Nat) : (Int × Int) × Int := P.getD k ((0, 0), 0)
def smT (a : Arr) (pl : List Int) (pr : Int × Int) (P : List ((Int × Int) × Int)) : Nat → List Int
  | 0 => zI
  | k + 1 => adT (smT a pl pr P k) pl (ptA P k).2 (smpI a (ptA P k).1 pr) pl.length
theorem smT_len {a : Arr} {pl : List Int} {pr : Int × Int} {P : List ((Int × Int) × Int)} : ∀ k : Nat, (smT a pl pr P k).length = 64
  | 0 => rfl
  | k + 1 => by show (adT _ _ _ _ _).length = 64; rw [adT_len]; exact smT_len k
theorem amp_mul {pl : List Int} {x : Int} (hx : -1000 ≤ x ∧ x ≤ 1000) (hp : ∀ n ∈ pl, -100 ≤ n ∧ n ≤ 100) : ∀ n ∈ pl, -100000 ≤ x * n ∧ x * n ≤ 100000 := by
  intro n hn
  have h := hp n hn
  have := mulb (a := x) (b := n) (A := 1000) (B := 100) (by omega) (by omega) (by omega) (by omega)
  omega
theorem ptA_in {P : List ((Int × Int) × Int)} (h : ∀ q ∈ P, -1000 ≤ q.2 ∧ q.2 ≤ 1000) (k : Nat) : -1000 ≤ (ptA P k).2 ∧ (ptA P k).2 ≤ 1000 := by
  unfold ptA
  rw [List.getD_eq_getElem?_getD]
  cases hx : P[k]? with
  | none => exact ⟨by decide, by decide⟩
  | some q => exact h q (List.mem_of_getElem? hx)
theorem smT_in {a : Arr} {pl : List Int} {pr : Int × Int} {P : List ((Int × Int) × Int)} (hl : pl.length ≤ 16) (hp : ∀ n ∈ pl, -100 ≤ n ∧ n ≤ 100) (hP : ∀ q ∈ P, -1000 ≤ q.2 ∧ q.2 ≤ 1000) : ∀ k : Nat, ∀ v ∈ smT a pl pr P k, -(1600000 * (k : Int)) ≤ v ∧ v ≤ 1600000 * (k : Int)
  | 0, v, hv => by rw [List.eq_of_mem_replicate hv]; omega
  | k + 1, v, hv => by
    have ih := smT_in (a := a) (pr := pr) hl hp hP k
    have := adT_in (t := smpI a (ptA P k).1 pr) ih (amp_mul (ptA_in hP k) hp) pl.length v hv
    omega
theorem rnd_in {n b A : Int} (hA : 0 ≤ A) (h1 : -A ≤ n) (h2 : n ≤ A) (hb : 1 ≤ b) : -(A + 1) ≤ rndI n b ∧ rndI n b ≤ A + 1 := by
  unfold rndI
  have hm : A ≤ A * b := by
    have := Int.mul_le_mul_of_nonneg_left hb hA
    rw [Int.mul_one] at this; exact this
  have e1 : (A + 1) * (2 * b) = 2 * (A * b) + 2 * b := by grind
  have e2 : -(A + 1) * (2 * b) = -(2 * (A * b) + 2 * b) := by grind
  refine ⟨Int.le_ediv_of_mul_le (by omega) (by rw [e2]; omega), ?_⟩
  have : (2 * n + b) / (2 * b) < A + 1 + 1 := Int.ediv_lt_of_lt_mul (by omega) (by
    have e3 : (A + 1 + 1) * (2 * b) = 2 * (A * b) + 4 * b := by grind
    rw [e3]; omega)
  omega
theorem smp_in {a : Arr} (hok : ArrOk a) (t p : Int × Int) : -10000000000000 ≤ smpI a t p ∧ smpI a t p ≤ 10000000000000 := by
  have he := ech_in a t p
  have h := rnd_in (n := echI a t p - a.ts.1) (b := a.ts.2) (A := 1100000000000) (by decide) (by have := hok.t2; omega) (by have := hok.t1; omega) hok.t3
  unfold smpI; omega
def trcR (s : Spc) (P : List ((Int × Int) × Int)) (pr : Int × Int) : List D × Int := if (smT s.ar s.pl pr P P.length).any bigB = true then (z64, 8) else ((smT s.ar s.pl pr P P.length).map fv, 0)
set_option maxRecDepth 100000 in
theorem traceOf_p (s : Spc) (P : List ((Int × Int) × Int)) (pr : Int × Int) (hok : ArrOk s.ar) (hpk : (0 ≤ pr.1 ∧ pr.1 < s.ar.el.length) ∧ 0 ≤ pr.2 ∧ pr.2 < s.ar.el.length) (hpl : s.pl.length ≤ 16) (hpb : ∀ n ∈ s.pl, -100 ≤ n ∧ n ≤ 100) (hP : P.length ≤ 300) (hPa : ∀ q ∈ P, -1000 ≤ q.2 ∧ q.2 ≤ 1000) : PC Try.prog 48 [.agg (opnS s P), .agg (shC pr)] (.tup [.agg (trcR s P pr).1, .v (.int .i64 ((trcR s P pr).2))]) := by
 have hfl : ((smT s.ar s.pl pr P P.length).map fv).length = 64 := by rw [List.length_map, smT_len]
 refine pc_of_awpN Try.func48 rfl Try.ntmps48 (rs := [.cell 4 54, .tmp 5]) Try.results48 (by simp) fun w0 hmine hrnd hpn => ?_
 refine awp_seq ?_
 refine awp_region 2 mixed (by kernel_rfl) ?_
 refine rg_q (q_box rfl (by exact .inr ⟨_, rfl⟩)) ?_
 refine rg_q (q_box rfl (by exact .inr ⟨_, rfl⟩)) ?_
 refine rg_nil ?_
 refine aops_alloc zr54 rfl rfl rfl ?_
 refine aops_q rfl (q_a rfl) ?_
 refine aops_nil ?_
 change Awp _ _ _ _ _
 refine awp_seq ?_
 refine awp_region 0 mixed (by kernel_rfl) ?_
 refine rg_nil ?_
 refine aops_alloc zr101 rfl rfl rfl ?_
 refine aops_nil ?_
 change Awp _ _ _ _ _
 refine awp_seq ?_
 refine awp_seq ?_
 refine awp_region 4 mixed (by kernel_rfl) ?_
 refine rg_q (q_fieldAddr fld105_2 rfl) (rg_q (q_load sz77 rfl rfl) ?_)
 refine rg_q (q_len isl77 rfl (by exact len_map _ _)) ?_
 refine rg_q (q_m rfl) ?_
 refine rn ?_
 change Awp _ _ _ _ _
 refine awp_len (t := 11) rfl (fun hl11 => ?_)
 (try simp only [List.length_map] at hl11)
 refine awp_block ?_
 refine awp_loopH [8, 13, 14, 15, 16, 17, 18, 19, 20, 21, 22, 23, 24, 25, 26, 27, 28] [6] (α := Nat) (fun k => [(13, T.i (k : Int))]) (fun k => [(6, .box ((smT s.ar s.pl pr P k).map iv))]) (fun k => k ≤ P.length) (fun k => P.length - k) 0 (Nat.zero_le _) ?_ ?_
 · exact le_head (ms := [6]) (by repeat (exact Out.refl _)) ⟨(by rfl), trivial⟩ ⟨(by rfl), trivial⟩ rfl rfl rfl rfl
 ·
  intro k hk
  refine awp_seq ?_
  refine awp_region 1 mixed (by kernel_rfl) ?_
  refine rg_q (q_lss rfl rfl) ?_
  refine rn ?_
  change Awp _ _ _ _ _
  refine awp_seq ?_
  refine awp_cond rfl (fun hc3 => ?_) (fun hc3 => ?_)
  ·
   (try simp only [nb, ne_eq] at hc3)
   have hlt : k < P.length := by omega
   obtain ⟨y, hx⟩ : ∃ y, P[k]? = some y := ⟨_, List.getElem?_eq_getElem hlt⟩
   have hya := hPa y (List.mem_of_getElem? hx)
   have hpy : ptA P k = y := by unfold ptA; rw [List.getD_eq_getElem?_getD, hx]; rfl
   have hin := smT_in (a := s.ar) (pr := pr) hpl hpb hPa k
   have hst : adT (smT s.ar s.pl pr P k) s.pl y.2 (smpI s.ar y.1 pr) s.pl.length = smT s.ar s.pl pr P (k + 1) := by rw [← hpy]; rfl
   refine awp_skip ?_
   change Awp _ _ _ _ _
   refine awp_seq ?_
   refine awp_block ?_
   refine awp_seq ?_
   refine awp_region 2 mixed (by kernel_rfl) ?_
   refine rg_q (q_indexAddr sl77 rfl rfl (by omega) (map_at (by omega) hx)) ?_
   refine rg_q (q_loadA (ds := [_, _, _]) sz82 rfl rfl rfl) ?_
   refine rg_nil ?_
   refine aops_alloc zr82 rfl rfl rfl ?_
   refine aops_store sz82 rfl rfl (by exact .inr ⟨_, rfl⟩) rfl rfl (by decide) rfl ?_
   refine aops_nil ?_
   change Awp _ _ _ _ _
   refine awp_region 10 mixed (by kernel_rfl) ?_
   refine rg_q (q_fieldAddr fld105_1 rfl) (rg_q (q_load sz23 rfl rfl) (rg_q (q_fieldAddr_ref fld82_1 rfl) (rg_q (q_load_ref sz3 rfl rfl rfl) (rg_q (q_fieldAddr fld105_0 rfl) ?_))))
   refine rg_q (q_loadA (ds := [_, _, _, _, _, _, _, _, _, _, _]) sz91 rfl rfl rfl) ?_
   refine rg_q (q_fieldAddr_ref fld82_0 rfl) ?_
   refine rg_q (q_load_refA (ds := [_, _]) sz46 rfl rfl rfl rfl) ?_
   refine rg_q (q_loadA (ds := [_, _]) sz41 rfl rfl rfl) ?_
   refine rg_q (q_call en38 (.cons rfl (.cons rfl (.cons rfl .nil))) rfl (sample_p s.ar y.1 pr hok hpk)) ?_
   refine rg_nil ?_
   refine aops_callL [6] [] en44 (sampAdd_p (smT s.ar s.pl pr P k) s.pl y.2 (smpI s.ar y.1 pr) (1600000 * (k : Int)) (smT_len _) hin (by omega) (by omega) (amp_mul hya hpb) (smp_in hok _ _)) (.cons rfl (.cons rfl (.cons rfl (.cons rfl .nil)))) rfl rfl rfl (by repeat (first | exact trivial | refine ⟨rfl, ?_⟩)) (by repeat (exact trivial)) rfl ?_
   refine aops_nil ?_
   change Awp _ _ _ _ _
   refine awp_region 2 mixed (by kernel_rfl) ?_
   refine rg_q (q_add rfl rfl (In64.mk (by omega) (by omega))) ?_
   refine rg_q (q_m rfl) ?_
   refine rn ?_
   refine ⟨k + 1, by omega, by omega, ?_⟩
   exact le_head (ms := [6]) (by repeat (first | exact Out.head rfl rfl | (refine Out.put ?_ rfl) | (refine Out.site ?_ rfl) | (refine Out.called ?_ rfl rfl))) ⟨(by rfl), trivial⟩ ⟨(by (show Site.box _ = Site.box _; rw [hst])), trivial⟩ rfl rfl rfl rfl
  ·
   (try simp only [nb, ne_eq] at hc3)
   have hkn : k = P.length := by omega
   subst hkn
   refine awp_exit ?_
   change Awp _ _ _ _ _
   refine awp_seq ?_
   refine awp_seq ?_
   refine Awp.le (le_freeze 6 6 0 (cs := (smT s.ar s.pl pr P P.length).map iv) rfl rfl rfl rfl hmine) ?_
   refine awp_region 2 mixed (by kernel_rfl) ?_
   refine rg_q (q_call en54 (.cons rfl .nil) rfl (tooLarge_p (smT s.ar s.pl pr P P.length) (smT_len _))) ?_
   refine rg_q (q_a rfl) ?_
   refine rs (awp_region 2 mixed (by kernel_rfl) ?_)
   refine rg_q (q_m rfl) (rg_q (q_neq rfl rfl) ?_)
   refine rn ?_
   change Awp _ _ _ _ _
   refine awp_cond rfl (fun hc8 => ?_) (fun hc8 => ?_)
   ·
    (try simp only [nb, ne_eq] at hc8)
    have hz : trcR s P pr = (z64, 8) := by
     unfold trcR
     rw [if_pos]
     cases hb : (smT s.ar s.pl pr P P.length).any bigB with
     | true => rfl
     | false => rw [hb] at hc8; exact absurd rfl hc8
    have hw : whenI ((smT s.ar s.pl pr P P.length).any bigB) 8 = 8 := by
     cases hb : (smT s.ar s.pl pr P P.length).any bigB with
     | true => rfl
     | false => rw [hb] at hc8; exact absurd rfl hc8
    refine awp_seq ?_
    refine awp_region 2 mixed (by kernel_rfl) ?_
    refine rg_q (q_buildA ar54 zr54 rfl .nil trivial rfl) ?_
    refine rg_q (q_m rfl) ?_
    refine rg_nil ?_
    refine aops_store sz54 rfl rfl (by exact .inr ⟨_, rfl⟩) rfl rfl (by decide) rfl ?_
    refine aops_q rfl (q_a rfl) ?_
    refine aops_nil ?_
    change Awp _ _ _ _ _
    refine awp_ret ?_
    refine ⟨_, (.cons (.cellA rfl rfl sz54 (by rfl)) (.cons (.tmp (by exact .d _)) .nil)), ?_⟩
    rw [hz, hw]; rfl
   ·
    (try simp only [nb, ne_eq] at hc8)
    have hz : trcR s P pr = ((smT s.ar s.pl pr P P.length).map fv, 0) := by
     unfold trcR
     rw [if_neg]
     intro hb
     rw [hb] at hc8
     exact absurd hc8 (by decide)
    refine awp_skip ?_
    change Awp _ _ _ _ _
    refine awp_seq ?_
    refine awp_region 1 mixed (by kernel_rfl) ?_
    refine rg_q (q_call en45 (.cons rfl .nil) rfl (trace_p (smT s.ar s.pl pr P P.length) (smT_len _))) ?_
    refine rg_nil ?_
    refine aops_store (cs' := (smT s.ar s.pl pr P P.length).map fv) sz54 rfl rfl (by exact .inr ⟨_, rfl⟩) hfl rfl (Nat.le_of_ble_eq_true rfl) (setCs_all hfl) ?_
    refine aops_q rfl (q_a rfl) ?_
    refine aops_nil ?_
    change Awp _ _ _ _ _
    refine awp_ret ?_
    refine ⟨_, (.cons (.cellA rfl rfl sz54 (by exact hfl)) (.cons (.tmp (by exact .d _)) .nil)), ?_⟩
    rw [hz]; rfl
end Go.Proofs.Ytamaocfjknpadaa.Am.M
-- mini
namespace Go.Proofs.Ytamaocfjknpadaa.Am.M
open Go

section
variable {P : Program} {w0 : Cx} {ty : TypeId} {pos : String} {after : Array Edge}
def notDead : T → Bool
  | .dead => false
  | _ => true
theorem argsS_live {ev ev' : Operand → T} {f : Nat → Nat} {ys : List Operand} {xs : List T} (h : ArgsS ev f ys xs) (hx : ∀ y, ev y = .dead ∨ ev' y = ev y) (hd : xs.all notDead = true) : ArgsS ev' f ys xs := by
  induction h with
  | nil => exact .nil
  | @cons y ys x xs h _ ih =>
    simp only [List.all_cons, Bool.and_eq_true] at hd
    refine .cons ?_ (ih hd.2)
    rcases hx y with e | e
    · rw [e] at h
      cases x <;> first | (cases h; done) | (have := hd.1; simp [notDead] at this; done)
    · rw [e]; exact h
theorem c_callR {s : St} {ev : Operand → T} {d k e sz : Nat} {es es' : List (List D)} {f : FuncId} {ys : List Operand} {at_ : Array TypeId} {args : List T} (he : enB P f = true) (hr : PCS P f args [.row e sz es] (.rs 0) [.row e sz es'])
    (ha : ArgsS ev (nth [k]) ys args) (hnd : args.all notDead = true) (hk : s.s k = .row e sz es) (hc : callOk [k] args [.row e sz es] (.rs 0) [.row e sz es'] = true) :
    COp P w0 s ev ⟨some d, .call ⟨.value (.func f), ys.toArray, at_⟩, ty, pos, after, none⟩ (.grow k d (.row e sz es')) :=
  fun st hk' hn hev hd => step_of_aops rfl fun ops rest R h => by
    refine aops_callL [k] [k] he hr (argsS_live ha hev hnd) hc rfl rfl ⟨by rw [hk']; exact hk, trivial⟩ trivial (by simp only; rw [Nat.blt_eq, hn]; exact hd d rfl) ?_
    have e1 : afterS st [k] [k] [.row e sz es'] = (st.killS k).site k (.row e sz es') := by
      simp only [afterS, St.killS, St.site, St.mk.injEq, true_and]
      refine funext fun j => ?_
      by_cases hj : j = k
      · subst hj; simp [idxN, getS, shiftS]
      · have : Nat.beq j k = false := by rw [← Bool.not_eq_true]; exact fun e => hj (Nat.eq_of_beq_eq_true e)
        simp [idxN, this]
    rw [e1]
    exact h
end

def ptsF (s : Spc) (k : Nat) : List ((Int × Int) × Int) := (s.fl.take k).flatMap ptsL
def ptsS (s : Spc) : List ((Int × Int) × Int) := s.fl.flatMap ptsL
theorem ptsF_succ {s : Spc} {k : Nat} {y : Flw} (h : s.fl[k]? = some y) : ptsF s (k + 1) = ptsF s k ++ ptsL y := by
  obtain ⟨hlt, hx⟩ := List.getElem?_eq_some_iff.1 h
  unfold ptsF
  rw [List.take_succ_eq_append_getElem hlt, hx, List.flatMap_append]; simp
theorem ptsF_len {s : Spc} (h : ∀ x ∈ s.fl, FlwOk x) : ∀ k : Nat, k ≤ s.fl.length → (ptsF s k).length ≤ 21 * k
  | 0, _ => by unfold ptsF; simp
  | k + 1, hk => by
    have hx : s.fl[k]? = some s.fl[k] := List.getElem?_eq_getElem (by omega)
    have h1 := ptsL_len (h _ (List.mem_of_getElem? hx))
    have h2 := ptsF_len h k (by omega)
    rw [ptsF_succ hx, List.length_append]; omega
theorem ckFls_ok {t : Int} : ∀ {l : List Flw} {i : Nat}, (ckFls t i l).2 = 0 → ∀ x ∈ l, flwE x = 0
  | [], _, _, x, hx => by cases hx
  | y :: l, i, h, x, hx => by
    unfold ckFls at h
    by_cases h1 : flE t y ≠ 0
    · rw [if_pos h1] at h; exact absurd h h1
    · rw [if_neg h1] at h
      rcases List.mem_cons.1 hx with rfl | hx
      · have h2 := Decidable.not_not.1 h1
        unfold flE at h2
        by_cases h3 : firstE [flwE x, plateE x.at_.2 t] = 0
        · rw [first_zero] at h3
          exact h3 _ (by simp)
        · rw [if_neg (fun q => h3 q.1)] at h2; exact absurd h2 h3
      · exact ckFls_ok h x hx
structure SpcOk (s : Spc) : Prop where
  ar : ArrOk s.ar
  p1 : s.pl.length ≤ 16
  p2 : ∀ n ∈ s.pl, -100 ≤ n ∧ n ≤ 100
  f1 : s.fl.length ≤ 10
  fl : ∀ x ∈ s.fl, FlwOk x
theorem spc_ok {s : Spc} (h : (ckSpc s).2 = 0) : SpcOk s := by
  unfold ckSpc at h
  by_cases h1 : (ckArr s.ar).2 ≠ 0
  · rw [if_pos h1] at h; exact absurd h h1
  rw [if_neg h1] at h
  by_cases h2 : spcE0 s ≠ 0
  · rw [if_pos h2] at h; exact absurd h h2
  rw [if_neg h2] at h
  have h3 := Decidable.not_not.1 h2
  unfold spcE0 at h3
  rw [first_zero] at h3
  simp only [List.mem_cons, List.not_mem_nil, or_false, forall_eq_or_imp, forall_eq] at h3
  obtain ⟨_, e5, e6⟩ := plsE_ok h3.1
  have e7 := (when_zero (show (8 : Int) ≠ 0 by decide)).1 h3.2
  refine ⟨(ckArr_ok (Decidable.not_not.1 h1)).1, e5, fun n hn => ?_, ?_, fun x hx => flw_ok (ckFls_ok h x hx)⟩
  · have := pulse_all (a := 1) e6 (by omega) n hn
    have h8 : plsB n = false := by
      cases hb : plsB n with
      | false => rfl
      | true => rw [List.any_eq_true.2 ⟨n, hn, hb⟩] at e6; cases e6
    unfold plsB at h8
    simp [inR] at h8
    omega
  · have := of_decide_eq_false e7
    omega

def z0 : D := .v (.int .i64 0)
def zOp : List D := [.v (.slice none 0 0), z0, z0, z0, z0, z0, z0, z0, z0, z0, z0, .v (.slice none 0 0), .v (.slice none 0 0)]
def osR (s : Spc) : List D × Int := if (ckSpc s).2 ≠ 0 then (zOp, (ckSpc s).2) else (opnS s (ptsS s), 0)
set_option maxRecDepth 100000 in
theorem openSpecimen_p (s : Spc) : PC Try.prog 46 [.agg (spcC s)] (.tup [.agg (osR s).1, .v (.int .i64 ((osR s).2))]) := by
 refine pc_of_awpN Try.func46 rfl Try.ntmps46 (rs := [.cell 2 105, .tmp 3]) Try.results46 (by simp) fun w0 hmine hrnd hpn => ?_
 refine awp_seq ?_
 refine awp_region 1 mixed (by kernel_rfl) ?_
 refine rg_q (q_box rfl (by exact .inr ⟨_, rfl⟩)) ?_
 refine rg_nil ?_
 refine aops_alloc zr105 rfl rfl rfl ?_
 refine aops_q rfl (q_a rfl) ?_
 refine aops_nil ?_
 change Awp _ _ _ _ _
 refine awp_seq ?_
 refine awp_seq ?_
 refine awp_region 7 mixed (by kernel_rfl) ?_
 refine rg_q (q_loadA sz40 rfl rfl rfl) ?_
 refine rg_q (q_call en50 (.cons rfl .nil) rfl (checkSpecimen_p _)) ?_
 refine rg_q (q_move (x := .d (.tup _)) rfl) (rg_q (q_extract rfl rfl) (rg_q (q_extract rfl rfl) (rg_q (q_a rfl) (rg_q (q_a rfl) ?_))))
 refine rs (awp_region 2 mixed (by kernel_rfl) ?_)
 refine rg_q (q_m rfl) (rg_q (q_neq rfl rfl) ?_)
 refine rn ?_
 change Awp _ _ _ _ _
 refine awp_cond rfl (fun hc2 => ?_) (fun hc2 => ?_)
 ·
  (try simp only [nb, ne_eq] at hc2)
  have h0 : (ckSpc s).2 ≠ 0 := hc2
  have hz : osR s = (zOp, (ckSpc s).2) := by unfold osR; rw [if_pos h0]
  refine awp_seq ?_
  refine awp_region 2 mixed (by kernel_rfl) ?_
  refine rg_q (q_build pl105 zr105 rfl .nil trivial rfl) ?_
  refine rg_q (q_m rfl) ?_
  refine rg_nil ?_
  refine aops_store sz105 rfl rfl (by exact .inr ⟨_, rfl⟩) rfl rfl (by decide) rfl ?_
  refine aops_q rfl (q_a rfl) ?_
  refine aops_nil ?_
  change Awp _ _ _ _ _
  refine awp_ret ?_
  refine ⟨_, (.cons (.cellA rfl rfl sz105 rfl) (.cons (.tmp (by exact .d _)) .nil)), ?_⟩
  rw [hz]; rfl
 ·
  (try simp only [nb, ne_eq] at hc2)
  have h0 : (ckSpc s).2 = 0 := by omega
  have hok := spc_ok h0
  have hf1 := hok.f1
  have hz : osR s = (opnS s (ptsS s), 0) := by unfold osR; rw [if_neg (fun q => q h0)]
  refine awp_skip ?_
  change Awp _ _ _ _ _
  refine awp_seq ?_
  refine awp_region 6 mixed (by kernel_rfl) ?_
  refine rg_q (q_fieldAddr fld40_0 rfl) ?_
  refine rg_q (q_loadA (ds := [_, _, _, _, _, _, _, _, _, _, _]) sz37 rfl rfl rfl) ?_
  refine rg_q (q_build (cs := [_, _, _, _, _, _, _, _, _, _, _]) pl91 zr91 rfl (.cons rfl (by exact .inr ⟨_, rfl⟩) .nil) ⟨⟨rfl, by decide⟩, trivial⟩ rfl) ?_
  refine rg_q (q_fieldAddr fld40_1 rfl) (rg_q (q_load sz23 rfl rfl) ?_)
  refine rg_q (q_build pl105 zr105 rfl (.cons rfl (by exact .inr ⟨_, rfl⟩) (.cons rfl (by exact .inl rfl) .nil)) ⟨⟨rfl, by decide⟩, ⟨rfl, by decide⟩, trivial⟩ rfl) ?_
  refine rg_nil ?_
  refine aops_alloc zr105 rfl rfl rfl ?_
  refine aops_store sz105 rfl rfl (by exact .inr ⟨_, rfl⟩) rfl rfl (by decide) rfl ?_
  refine aops_nil ?_
  change Awp _ _ _ _ _
  refine awp_seq ?_
  refine awp_seq ?_
  refine Awp.le (le_ownB 6 35 12 82 3 rfl rfl rfl) ?_
  refine awp_region 4 mixed (by kernel_rfl) ?_
  refine rg_q (q_fieldAddr fld40_2 rfl) (rg_q (q_load sz38 rfl rfl) ?_)
  refine rg_q (q_len isl38 rfl (by exact len_map _ _)) ?_
  refine rg_q (q_m rfl) ?_
  refine rn ?_
  change Awp _ _ _ _ _
  refine awp_len (t := 25) rfl (fun hl25 => ?_)
  (try simp only [List.length_map] at hl25)
  refine awp_block ?_
  refine awp_loopH [8, 27, 28, 29, 30, 31, 32, 33, 34, 35, 36, 37] [6, 35] (α := Nat) (fun k => [(27, T.i (k : Int))]) (fun k => [(6, .tbox [.d (.sl 2 (s.ar.el.map shC)), .d (.v (.int .i64 (s.ar.ou.w))), .d (.v (.int .i64 (s.ar.ou.m))), .d (.v (.int .i64 (s.ar.ou.k))), .d (.v (.int .i64 (s.ar.ou.t))), .d (.v (.int .i64 (s.ar.ba.w))), .d (.v (.int .i64 (s.ar.ba.m))), .d (.v (.int .i64 (s.ar.ba.k))), .d (.v (.int .i64 (s.ar.ba.t))), .d (.v (.int .i64 (s.ar.ts.1))), .d (.v (.int .i64 (s.ar.ts.2))), .d (.sl 1 (s.pl.map iC)), .rs 35]), (35, .row 82 3 ((ptsF s k).map ptnC))]) (fun k => k ≤ s.fl.length) (fun k => s.fl.length - k) 0 (Nat.zero_le _) ?_ ?_
  · exact le_head (ms := [6, 35]) (by repeat (exact Out.refl _)) ⟨(by rfl), trivial⟩ ⟨(by rfl), (by rfl), trivial⟩ rfl rfl rfl rfl
  ·
   intro k hk
   refine awp_seq ?_
   refine awp_region 1 mixed (by kernel_rfl) ?_
   refine rg_q (q_lss rfl rfl) ?_
   refine rn ?_
   change Awp _ _ _ _ _
   refine awp_seq ?_
   refine awp_cond rfl (fun hc6 => ?_) (fun hc6 => ?_)
   ·
    (try simp only [nb, ne_eq] at hc6)
    have hlt : k < s.fl.length := by omega
    obtain ⟨y, hx⟩ : ∃ y, s.fl[k]? = some y := ⟨_, List.getElem?_eq_getElem hlt⟩
    have hoky := hok.fl y (List.mem_of_getElem? hx)
    have hl1 := ptsL_len hoky
    have hl2 := ptsF_len hok.fl k (by omega)
    have hs1 : (ptsF s k ++ ptsL y).map ptnC = (ptsF s (k + 1)).map ptnC := by rw [ptsF_succ hx]
    refine awp_skip ?_
    change Awp _ _ _ _ _
    refine awp_seq ?_
    refine awp_block ?_
    refine awp_seq ?_
    refine awp_region 2 mixed (by kernel_rfl) ?_
    refine rg_q (q_indexAddr sl38 rfl rfl (by omega) (map_at (by omega) hx)) ?_
    refine rg_q (q_loadA (ds := [_, _, _, _, _, _, _, _]) sz48 rfl rfl rfl) ?_
    refine rg_nil ?_
    refine aops_alloc zr48 rfl rfl rfl ?_
    refine aops_store sz48 rfl rfl (by exact .inr ⟨_, rfl⟩) rfl rfl (by decide) rfl ?_
    refine aops_nil ?_
    change Awp _ _ _ _ _
    refine awp_regionC 7 [0, 1, 4, 5, 6] [35, 6] mixed (by kernel_rfl) ?_
    refine rgc_c rfl rfl (c_q (q_fieldAddr_ref fld105_2 rfl)) ?_
    refine rgc_c rfl rfl (c_q (q_load_tb (x := .rs _) sz77 rfl rfl rfl)) ?_
    refine rgc_q rfl (q_load_refA (ds := [_, _, _, _, _, _, _, _]) sz48 rfl rfl rfl rfl) rfl ?_
    refine rgc_q rfl (q_call en60 (.cons rfl .nil) rfl (points_p _)) rfl ?_
    refine rgc_c rfl rfl (c_callR en73 (appendSeq_p (ptsF s k) (ptsL y) 82 [.pt (flwC y) 0] en82 (points_i y hoky) (by omega)) (.cons rfl (.cons rfl .nil)) rfl rfl rfl) ?_
    refine rgc_c rfl rfl (c_q (q_fieldAddr_ref fld105_2 rfl)) ?_
    refine rgc_c rfl rfl ((c_storeR sz77 rfl rfl rfl (by simp) rfl)) ?_
    refine rgc_nil ?_
    refine aops_nil ?_
    change Awp _ _ _ _ _
    refine awp_region 2 mixed (by kernel_rfl) ?_
    refine rg_q (q_add rfl rfl (In64.mk (by omega) (by omega))) ?_
    refine rg_q (q_m rfl) ?_
    refine rn ?_
    refine ⟨k + 1, by omega, by omega, ?_⟩
    exact le_head (ms := [6, 35]) (by repeat (first | exact Out.head rfl rfl | (refine Out.put ?_ rfl) | (refine Out.site ?_ rfl) | (refine Out.killS ?_ rfl) | (refine Out.ovD ?_ rfl))) ⟨(by rfl), trivial⟩ ⟨(by rfl), (by (show Site.row _ _ _ = Site.row _ _ _; rw [hs1])), trivial⟩ rfl rfl rfl rfl
   ·
    (try simp only [nb, ne_eq] at hc6)
    have hkn : k = s.fl.length := by omega
    have hrow : (ptsF s k).map ptnC = (ptsS s).map ptnC := by unfold ptsF ptsS; rw [hkn, List.take_length]
    refine awp_exit ?_
    change Awp _ _ _ _ _
    refine awp_seq ?_
    refine Awp.le (le_freezeTB 6 35 12 (es := (ptsS s).map ptnC) rfl rfl (by show Site.row _ _ _ = _; rw [hrow]) rfl hmine) ?_
    refine Awp.le (le_boxT 6 (opnS s (ptsS s)) rfl rfl (by intro j d h; match j, h with | 0, h => cases h; rfl | 1, h => cases h; rfl | 2, h => cases h; rfl | 3, h => cases h; rfl | 4, h => cases h; rfl | 5, h => cases h; rfl | 6, h => cases h; rfl | 7, h => cases h; rfl | 8, h => cases h; rfl | 9, h => cases h; rfl | 10, h => cases h; rfl | 11, h => cases h; rfl | 12, h => cases h; rfl)) ?_
    refine awp_region 1 mixed (by kernel_rfl) ?_
    refine rg_q (q_load_refA sz105 rfl rfl rfl rfl) ?_
    refine rg_nil ?_
    refine aops_store sz105 rfl rfl (by exact .inr ⟨_, rfl⟩) rfl rfl (by decide) rfl ?_
    refine aops_q rfl (q_a rfl) ?_
    refine aops_nil ?_
    change Awp _ _ _ _ _
    refine awp_ret ?_
    refine ⟨_, (.cons (.cellA rfl rfl sz105 rfl) (.cons (.tmp (by exact .d _)) .nil)), ?_⟩
    rw [hz]; rfl
end Go.Proofs.Ytamaocfjknpadaa.Am.M
-- mini
namespace Go.Proofs.Ytamaocfjknpadaa.Am.M
open Go

theorem pts_amp {x : Flw} (h : FlwOk x) : ∀ q ∈ ptsL x, -1000 ≤ q.2 ∧ q.2 ≤ 1000 := by
  intro q hq
  unfold ptsL at hq
  split at hq
  · rw [List.mem_singleton.1 hq]; exact h.am
  · rename_i hk
    unfold ptsTo at hq
    obtain ⟨i, _, rfl⟩ := List.mem_map.1 hq
    have h1 := h.am
    have h2 := (h.pl hk).2.2.2
    unfold ptK
    simp only
    split
    · exact h2
    · exact h1
theorem ptsS_in {s : Spc} (h : SpcOk s) : (ptsS s).length ≤ 300 ∧ ∀ q ∈ ptsS s, -1000 ≤ q.2 ∧ q.2 ≤ 1000 := by
  refine ⟨?_, fun q hq => ?_⟩
  · have h1 := ptsF_len h.fl s.fl.length (Nat.le_refl _)
    have h2 : ptsF s s.fl.length = ptsS s := by unfold ptsF ptsS; rw [List.take_length]
    rw [h2] at h1
    have := h.f1
    omega
  · unfold ptsS at hq
    obtain ⟨x, hx, hq⟩ := List.mem_flatMap.1 hq
    exact pts_amp (h.fl x hx) q hq
def zM : Md := ⟨0, 0, 0, 0⟩
def zS : Spc := ⟨⟨[], zM, zM, (0, 0)⟩, [], []⟩
def tcR (s : Spc) (pr : Int × Int) : List D × Int := if (ckSpc s).2 ≠ 0 then (z64, (ckSpc s).2) else if pairE s.ar.el.length pr ≠ 0 then (z64, pairE s.ar.el.length pr) else trcR s (ptsS s) pr
theorem trcR_len (s : Spc) (P : List ((Int × Int) × Int)) (pr : Int × Int) : (trcR s P pr).1.length = 64 := by
  unfold trcR
  split
  · rfl
  · show ((smT s.ar s.pl pr P P.length).map fv).length = 64
    rw [List.length_map, smT_len]
set_option maxRecDepth 100000 in
theorem traceBad_p (s : Spc) (pr : Int × Int) (h0 : (ckSpc s).2 ≠ 0) : PC Try.prog 18 [.agg (spcC s), .agg (shC pr)] (.tup [.agg (tcR s pr).1, .v (.int .i64 ((tcR s pr).2))]) := by
 have hos : osR s = (zOp, (ckSpc s).2) := by unfold osR; rw [if_pos h0]
 have hz : tcR s pr = (z64, (ckSpc s).2) := by unfold tcR; rw [if_pos h0]
 have hfe : firstE [(ckSpc s).2, pairE zS.ar.el.length pr] = (ckSpc s).2 := by unfold firstE; rw [if_neg h0]
 refine pc_of_awp Try.func18 rfl Try.ntmps18 (rs := [.cell 4 54, .tmp 5]) Try.results18 (by simp) fun w0 => ?_
 refine awp_seq ?_
 refine awp_region 2 mixed (by kernel_rfl) ?_
 refine rg_q (q_box rfl (by exact .inr ⟨_, rfl⟩)) ?_
 refine rg_q (q_box rfl (by exact .inr ⟨_, rfl⟩)) ?_
 refine rg_nil ?_
 refine aops_alloc zr54 rfl rfl rfl ?_
 refine aops_q rfl (q_a rfl) ?_
 refine aops_nil ?_
 change Awp _ _ _ _ _
 refine awp_seq ?_
 refine awp_region 5 mixed (by kernel_rfl) ?_
 refine rg_q (q_loadA sz40 rfl rfl rfl) ?_
 refine rg_q (q_call en46 (.cons rfl .nil) rfl ((by have h := openSpecimen_p s; rw [hos] at h; exact h))) ?_
 refine rg_q (q_move (x := .d (.tup _)) rfl) (rg_q (q_extract rfl rfl) (rg_q (q_extract rfl rfl) ?_))
 refine rg_nil ?_
 refine aops_alloc zr105 rfl rfl rfl ?_
 refine aops_store sz105 rfl rfl (by exact .inr ⟨_, rfl⟩) rfl rfl (by decide) rfl ?_
 refine aops_q rfl (q_a rfl) ?_
 refine aops_nil ?_
 change Awp _ _ _ _ _
 refine awp_seq ?_
 refine awp_seq ?_
 refine Awp.le (le_upB 6 (opnS zS []) rfl (.cons (.nil 2) (.cons (.same _) (.cons (.same _) (.cons (.same _) (.cons (.same _) (.cons (.same _) (.cons (.same _) (.cons (.same _) (.cons (.same _) (.cons (.same _) (.cons (.same _) (.cons (.nil 1) (.cons (.nil 3) .nil)))))))))))))) ?_
 refine awp_region 8 mixed (by kernel_rfl) ?_
 refine rg_q (q_m rfl) (rg_q (q_fieldAddr_ref fld105_0 rfl) ?_)
 refine rg_q (q_load_refA (ds := [_, _, _, _, _, _, _, _, _, _, _]) sz91 rfl rfl rfl rfl) ?_
 refine rg_q (q_loadA (ds := [_, _]) sz41 rfl rfl rfl) ?_
 refine rg_q (q_call en47 (.cons rfl (.cons rfl .nil)) rfl (pairErr_p zS.ar pr (Nat.zero_le _))) ?_
 refine rg_q (q_buildSlice sl131 zr24 rfl rfl (by decide) (.cons rfl (by exact .inl rfl) (.cons rfl (by exact .inl rfl) .nil)) ⟨rfl, rfl, rfl, rfl, trivial⟩ rfl (by decide) rfl) ?_
 refine rg_q (q_call en40 (.cons rfl .nil) rfl (bfirst_p [(ckSpc s).2, pairE zS.ar.el.length pr])) ?_
 refine rg_q (q_a rfl) ?_
 refine rs (awp_region 2 mixed (by kernel_rfl) ?_)
 refine rg_q (q_m rfl) (rg_q (q_neq rfl rfl) ?_)
 refine rn ?_
 change Awp _ _ _ _ _
 refine awp_cond rfl (fun hc3 => ?_) (fun hc3 => ?_)
 ·
  (try simp only [nb, ne_eq] at hc3)
  refine awp_seq ?_
  refine awp_region 2 mixed (by kernel_rfl) ?_
  refine rg_q (q_buildA ar54 zr54 rfl .nil trivial rfl) ?_
  refine rg_q (q_m rfl) ?_
  refine rg_nil ?_
  refine aops_store sz54 rfl rfl (by exact .inr ⟨_, rfl⟩) rfl rfl (by decide) rfl ?_
  refine aops_q rfl (q_a rfl) ?_
  refine aops_nil ?_
  change Awp _ _ _ _ _
  refine awp_ret ?_
  refine ⟨_, (.cons (.cellA rfl rfl sz54 rfl) (.cons (.tmp (by exact .d _)) .nil)), ?_⟩
  rw [hz, hfe]; rfl
 ·
  rw [hfe] at hc3
  exact absurd (Decidable.not_not.1 (of_decide_eq_false hc3)) h0
set_option maxRecDepth 100000 in
theorem traceOk_p (s : Spc) (pr : Int × Int) (h0 : (ckSpc s).2 = 0) : PC Try.prog 18 [.agg (spcC s), .agg (shC pr)] (.tup [.agg (tcR s pr).1, .v (.int .i64 ((tcR s pr).2))]) := by
 have hos : osR s = (opnS s (ptsS s), 0) := by unfold osR; rw [if_neg (fun q => q h0)]
 have hsp := spc_ok h0
 have hok := hsp.ar
 have hn2 := hok.n2
 obtain ⟨hp1, hp2⟩ := ptsS_in hsp
 have hfe : firstE [0, pairE s.ar.el.length pr] = pairE s.ar.el.length pr := by
  unfold firstE
  rw [if_pos rfl]
  unfold firstE
  by_cases q : pairE s.ar.el.length pr = 0
  · rw [if_pos q, q]; rfl
  · rw [if_neg q]
 have hlen := trcR_len s (ptsS s) pr
 refine pc_of_awp Try.func18 rfl Try.ntmps18 (rs := [.cell 4 54, .tmp 5]) Try.results18 (by simp) fun w0 => ?_
 refine awp_seq ?_
 refine awp_region 2 mixed (by kernel_rfl) ?_
 refine rg_q (q_box rfl (by exact .inr ⟨_, rfl⟩)) ?_
 refine rg_q (q_box rfl (by exact .inr ⟨_, rfl⟩)) ?_
 refine rg_nil ?_
 refine aops_alloc zr54 rfl rfl rfl ?_
 refine aops_q rfl (q_a rfl) ?_
 refine aops_nil ?_
 change Awp _ _ _ _ _
 refine awp_seq ?_
 refine awp_region 5 mixed (by kernel_rfl) ?_
 refine rg_q (q_loadA sz40 rfl rfl rfl) ?_
 refine rg_q (q_call en46 (.cons rfl .nil) rfl ((by have h := openSpecimen_p s; rw [hos] at h; exact h))) ?_
 refine rg_q (q_move (x := .d (.tup _)) rfl) (rg_q (q_extract rfl rfl) (rg_q (q_extract rfl rfl) ?_))
 refine rg_nil ?_
 refine aops_alloc zr105 rfl rfl rfl ?_
 refine aops_store sz105 rfl rfl (by exact .inr ⟨_, rfl⟩) rfl rfl (by decide) rfl ?_
 refine aops_q rfl (q_a rfl) ?_
 refine aops_nil ?_
 change Awp _ _ _ _ _
 refine awp_seq ?_
 refine awp_seq ?_
 refine awp_region 8 mixed (by kernel_rfl) ?_
 refine rg_q (q_m rfl) (rg_q (q_fieldAddr_ref fld105_0 rfl) ?_)
 refine rg_q (q_load_refA (ds := [_, _, _, _, _, _, _, _, _, _, _]) sz91 rfl rfl rfl rfl) ?_
 refine rg_q (q_loadA (ds := [_, _]) sz41 rfl rfl rfl) ?_
 refine rg_q (q_call en47 (.cons rfl (.cons rfl .nil)) rfl (pairErr_p s.ar pr (by omega))) ?_
 refine rg_q (q_buildSlice sl131 zr24 rfl rfl (by decide) (.cons rfl (by exact .inl rfl) (.cons rfl (by exact .inl rfl) .nil)) ⟨rfl, rfl, rfl, rfl, trivial⟩ rfl (by decide) rfl) ?_
 refine rg_q (q_call en40 (.cons rfl .nil) rfl (bfirst_p [0, pairE s.ar.el.length pr])) ?_
 refine rg_q (q_a rfl) ?_
 refine rs (awp_region 2 mixed (by kernel_rfl) ?_)
 refine rg_q (q_m rfl) (rg_q (q_neq rfl rfl) ?_)
 refine rn ?_
 change Awp _ _ _ _ _
 refine awp_cond rfl (fun hc3 => ?_) (fun hc3 => ?_)
 ·
  (try simp only [nb, ne_eq] at hc3)
  rw [hfe] at hc3 ⊢
  have hz : tcR s pr = (z64, pairE s.ar.el.length pr) := by unfold tcR; rw [if_neg (fun q => q h0), if_pos hc3]
  refine awp_seq ?_
  refine awp_region 2 mixed (by kernel_rfl) ?_
  refine rg_q (q_buildA ar54 zr54 rfl .nil trivial rfl) ?_
  refine rg_q (q_m rfl) ?_
  refine rg_nil ?_
  refine aops_store sz54 rfl rfl (by exact .inr ⟨_, rfl⟩) rfl rfl (by decide) rfl ?_
  refine aops_q rfl (q_a rfl) ?_
  refine aops_nil ?_
  change Awp _ _ _ _ _
  refine awp_ret ?_
  refine ⟨_, (.cons (.cellA rfl rfl sz54 (by rfl)) (.cons (.tmp (by exact .d _)) .nil)), ?_⟩
  rw [hz]; rfl
 ·
  (try simp only [nb, ne_eq] at hc3)
  rw [hfe] at hc3
  have hp0 : pairE s.ar.el.length pr = 0 := hc3
  have hpk := pair_ok hp0
  have hz : tcR s pr = trcR s (ptsS s) pr := by unfold tcR; rw [if_neg (fun q => q h0), if_neg (fun q => q hp0)]
  refine awp_skip ?_
  change Awp _ _ _ _ _
  refine awp_seq ?_
  refine awp_region 5 mixed (by kernel_rfl) ?_
  refine rg_q (q_load_refA sz105 rfl rfl rfl rfl) ?_
  refine rg_q (q_loadA (ds := [_, _]) sz41 rfl rfl rfl) ?_
  refine rg_q (q_call en48 (.cons rfl (.cons rfl .nil)) rfl (traceOf_p s (ptsS s) pr hok hpk hsp.p1 hsp.p2 hp1 hp2)) ?_
  refine rg_q (q_extract rfl rfl) (rg_q (q_extract rfl rfl) ?_)
  refine rg_nil ?_
  refine aops_store (cs' := (trcR s (ptsS s) pr).1) sz54 rfl rfl (by exact .inr ⟨_, rfl⟩) hlen rfl (Nat.le_of_ble_eq_true rfl) (setCs_all hlen) ?_
  refine aops_q rfl (q_a rfl) ?_
  refine aops_nil ?_
  change Awp _ _ _ _ _
  refine awp_ret ?_
  refine ⟨_, (.cons (.cellA rfl rfl sz54 (by exact hlen)) (.cons (.tmp (by exact .d _)) .nil)), ?_⟩
  rw [hz]; rfl

theorem traceOfS_p (s : Spc) (pr : Int × Int) : PC Try.prog 18 [.agg (spcC s), .agg (shC pr)] (.tup [.agg (tcR s pr).1, .v (.int .i64 ((tcR s pr).2))]) := by
  by_cases h : (ckSpc s).2 = 0
  · exact traceOk_p s pr h
  · exact traceBad_p s pr h
end Go.Proofs.Ytamaocfjknpadaa.Am.M
-- mini
namespace Go.Proofs.Ytamaocfjknpadaa.Am.M
open Go

theorem eq38_low (a0 a1 b0 b1 : Int) (w : World) : (Op.equalIn (9998 + 1) 46 (.agg #[iW a0, iW a1]) (.agg #[iW b0, iW b1])).run Try.prog w = .ok (decide ([a0, a1] = [b0, b1])) w := by
  have hf : (Try.prog.fieldsOf 46).toList = [⟨ "X", 3, 0, false, "", "", 0⟩, ⟨ "Z", 3, 1, false, "", "", 8⟩] := by kernel_rfl
  rw [show (9998 + 1 : Nat) = 9997 + 1 + 1 from rfl, run_equalIn_struct w (9997 + 1) 46 _ _ (by kernel_rfl) (by kernel_rfl), hf]
  have u3 := Try.underlying3
  simp [Op.eqFields, part, isAgg, run_underlying u3, iW, run_equalIn_int, u3, Result.andThen]
  (repeat' split) <;> simp_all

theorem eqi82 : EqI Try.prog 82 3 := by
  intro xs ys hx hy w
  match xs, ys, hx, hy with
  | [a0, a1, a2], [b0, b1, b2], _, _ =>
    refine ⟨fun x y => run_eqGuard_agg w .eql 82 x y _ _ (by kernel_rfl), fun x y => run_eqGuard_agg w .neq 82 x y _ _ (by kernel_rfl), ?_⟩
    have hf : (Try.prog.fieldsOf 82).toList = [⟨ "At", 46, 0, false, "", "", 0⟩, ⟨ "Amplitude", 3, 2, false, "", "", 16⟩] := by kernel_rfl
    rw [show (10000 : Nat) = 9998 + 1 + 1 from rfl, run_equalIn_struct w (9998 + 1) 82 _ _ (by kernel_rfl) (by kernel_rfl), hf]
    have u3 := Try.underlying3
    have u46 := Try.underlying46
    have hl := eq38_low a0 a1 b0 b1 w
    simp only [iW] at hl
    simp [Op.eqFields, part, isAgg, run_underlying u3, run_underlying u46, iW, run_equalIn_int, u3, Result.andThen, hl]
    (repeat' split) <;> simp_all

section
variable {P : Program} {w0 : Cx} {n : Nat} {s : Nat → Site} {ev : Operand → T} {dst : Option Tmp} {ty : TypeId} {pos : String} {after : Array Edge} {g : Option (Nat × Bool)}
theorem q_fieldA {t : TypeId} {y : Operand} {f off m : Nat} {ft : TypeId} {cs ds : List D} (ht : (match P.underlying t with | some (.struct fs) => (fs[f]?).map (fun fd => (fd.offset, fd.type)) | _ => none) = some (off, ft)) (hs : szB P ft true m = true) (hy : ev y = .d (.agg cs)) (hd : (cs.drop off).take m = ds) (hl : ds.length = m) : QOp P w0 n s ev ⟨dst, .field t y f, ty, pos, after, g⟩ (.d (.agg ds)) :=
  .mk fun a w ok blk val h _ hnew => by
    subst hd
    obtain ⟨vs, hv, hL, hsc⟩ := agg_inv (show Rep w _ (.agg cs) (a.eval y) by have := h y; rw [hy] at this; exact this)
    have hlen : vs.length = cs.length := hL.length
    refine ⟨.agg ((vs.drop off).take m).toArray, w, ?_, Ext.refl w, ?_⟩
    · cases hu : P.underlying t with
      | none => simp [hu] at ht
      | some q =>
        cases q <;> simp only [hu, reduceCtorEq] at ht
        rename_i fs
        cases hf : fs[f]? with
        | none => simp [hf] at ht
        | some fd =>
          simp only [hf, Option.map_some, Option.some.injEq, Prod.mk.injEq] at ht
          obtain ⟨e1, e2⟩ := ht
          subst e1; subst e2
          simp [execOp, Instr.field, run_underlying hu, hf, hv, asAgg, part, szB_agg hs, szB_size hs]
    · refine Rep.agg _ _ (by rw [List.length_take, List.length_drop, List.length_take, List.length_drop, hlen]) (fun j d hj => ?_) (fun j d v hj hv => ?_)
      · rw [List.getElem?_take] at hj
        split at hj
        · rw [List.getElem?_drop] at hj; exact hsc _ d hj
        · cases hj
      · rw [List.getElem?_take] at hj hv
        split at hj
        · rename_i hjm
          rw [if_pos hjm, List.getElem?_drop] at hv
          rw [List.getElem?_drop] at hj
          exact hL.get _ d v hj hv
        · cases hj
end
set_option maxRecDepth 100000 in
theorem samePoints_p (l m : List ((Int × Int) × Int)) : PC Try.prog 30 [.sl 3 (l.map ptnC), .sl 3 (m.map ptnC)] (.v (.bool (decide (l = m)))) := by
 refine pc_of_awp Try.func30 rfl Try.ntmps30 (rs := [.tmp 4]) Try.results30 (by simp) fun w0 => ?_
 refine awp_seq ?_
 refine awp_region 1 mixed (by kernel_rfl) ?_
 refine rg_q (q_a rfl) ?_
 refine rn ?_
 change Awp _ _ _ _ _
 refine awp_seq ?_
 refine awp_seq ?_
 refine awp_region 5 mixed (by kernel_rfl) ?_
 refine rg_q (q_move (x := .d (.sl _ _)) rfl) ?_
 refine rg_q (q_len isl77 rfl (by exact len_map _ _)) ?_
 refine rg_q (q_move (x := .d (.sl _ _)) rfl) ?_
 refine rg_q (q_len isl77 rfl (by exact len_map _ _)) ?_
 refine rg_q (q_neq rfl rfl) ?_
 refine rn ?_
 change Awp _ _ _ _ _
 refine awp_len (t := 6) rfl (fun hl6 => ?_)
 (try simp only [List.length_map] at hl6)
 refine awp_len (t := 8) rfl (fun hl8 => ?_)
 (try simp only [List.length_map] at hl8)
 refine awp_cond rfl (fun hc1 => ?_) (fun hc1 => ?_)
 ·
  (try simp only [nb, ne_eq] at hc1)
  have hz : decide (l = m) = false := decide_eq_false (fun e => by rw [e] at hc1; omega)
  refine awp_seq ?_
  refine awp_region 1 mixed (by kernel_rfl) ?_
  refine rg_q (q_a rfl) ?_
  refine rn ?_
  change Awp _ _ _ _ _
  refine awp_ret ?_
  refine ⟨_, (.cons (.tmp (by exact .d _)) .nil), ?_⟩
  rw [hz]; rfl
 ·
  (try simp only [nb, ne_eq] at hc1)
  have hlm : l.length = m.length := by omega
  refine awp_skip ?_
  change Awp _ _ _ _ _
  refine awp_seq ?_
  refine awp_seq ?_
  refine awp_region 1 mixed (by kernel_rfl) ?_
  refine rg_q (q_a rfl) ?_
  refine rn ?_
  change Awp _ _ _ _ _
  refine awp_block ?_
  refine awp_loopH [4, 5, 11, 12, 13, 14, 15, 16, 17, 18, 19, 20, 21, 22, 23, 24, 25] [] (α := Nat) (fun k => [(5, T.i (k : Int))]) (fun k => []) (fun k => k ≤ l.length ∧ l.take k = m.take k) (fun k => l.length - k) 0 ⟨Nat.zero_le _, rfl⟩ ?_ ?_
  · exact le_head (ms := []) (by repeat (exact Out.refl _)) ⟨(by rfl), trivial⟩ trivial rfl rfl rfl rfl
  ·
   intro k ⟨hk, hf⟩
   refine awp_seq ?_
   refine awp_seq ?_
   refine awp_region 4 mixed (by kernel_rfl) ?_
   refine rg_q (q_m rfl) (rg_q (q_move (x := .d (.sl _ _)) rfl) ?_)
   refine rg_q (q_len isl77 rfl (by exact len_map _ _)) ?_
   refine rg_q (q_lss rfl rfl) ?_
   refine rn ?_
   change Awp _ _ _ _ _
   refine awp_len (t := 12) rfl (fun hl12 => ?_)
   (try simp only [List.length_map] at hl12)
   refine awp_cond rfl (fun hc4 => ?_) (fun hc4 => ?_)
   ·
    (try simp only [nb, ne_eq] at hc4)
    have hlt : k < l.length := by omega
    obtain ⟨x, hx⟩ : ∃ x, l[k]? = some x := ⟨_, List.getElem?_eq_getElem hlt⟩
    obtain ⟨y, hy⟩ : ∃ y, m[k]? = some y := ⟨_, List.getElem?_eq_getElem (by omega)⟩
    refine awp_skip ?_
    change Awp _ _ _ _ _
    refine awp_seq ?_
    refine awp_block ?_
    refine awp_seq ?_
    refine awp_region 9 mixed (by kernel_rfl) ?_
    refine rg_q (q_move (x := .d (.sl _ _)) rfl) (rg_q (q_m rfl) ?_)
    refine rg_q (q_indexAddr sl77 rfl rfl (by omega) (map_at (k := k) (by omega) hx)) ?_
    refine rg_q (q_loadA (ds := [_, _, _]) sz82 rfl rfl rfl) ?_
    refine rg_q (q_move (x := .d (.sl _ _)) rfl) (rg_q (q_m rfl) ?_)
    refine rg_q (q_indexAddr sl77 rfl rfl (by omega) (map_at (k := k) (by omega) hy)) ?_
    refine rg_q (q_loadA (ds := [_, _, _]) sz82 rfl rfl rfl) ?_
    refine rg_q (q_neqI (xs := [_, _, _]) (ys := [_, _, _]) eqi82 rfl rfl rfl rfl) ?_
    refine rn ?_
    change Awp _ _ _ _ _
    refine awp_cond rfl (fun hc6 => ?_) (fun hc6 => ?_)
    ·
     (try simp only [nb, ne_eq] at hc6)
     have hz : decide (l = m) = false := decide_eq_false (fun e => by rw [e, hy] at hx; have hxy := Option.some.inj hx; subst hxy; simp at hc6)
     refine awp_seq ?_
     refine awp_region 1 mixed (by kernel_rfl) ?_
     refine rg_q (q_a rfl) ?_
     refine rn ?_
     change Awp _ _ _ _ _
     refine awp_ret ?_
     refine ⟨_, (.cons (.tmp (by exact .d _)) .nil), ?_⟩
     rw [hz]; rfl
    ·
     (try simp only [nb, ne_eq] at hc6)
     have hxy : x = y := by
      obtain ⟨⟨x1, x2⟩, x3⟩ := x
      obtain ⟨⟨y1, y2⟩, y3⟩ := y
      simp_all
     have hnx : l.take (k + 1) = m.take (k + 1) := by rw [List.take_succ_eq_append_getElem hlt, List.take_succ_eq_append_getElem (by omega), hf, (List.getElem?_eq_some_iff.1 hx).2, (List.getElem?_eq_some_iff.1 hy).2, hxy]
     refine awp_skip ?_
     change Awp _ _ _ _ _
     refine awp_region 3 mixed (by kernel_rfl) ?_
     refine rg_q (q_m rfl) ?_
     refine rg_q (q_add rfl rfl (In64.mk (by omega) (by omega))) ?_
     refine rg_q (q_a rfl) ?_
     refine rn ?_
     refine ⟨k + 1, ⟨by omega, hnx⟩, by omega, ?_⟩
     exact le_head (ms := []) (by repeat (first | exact Out.head rfl rfl | (refine Out.put ?_ rfl))) ⟨(by rfl), trivial⟩ trivial rfl rfl rfl rfl
   ·
    (try simp only [nb, ne_eq] at hc4)
    have hz : decide (l = m) = true := decide_eq_true (by rw [← List.take_of_length_le (l := l) (i := k) (by omega), hf, List.take_of_length_le (by omega)])
    refine awp_exit ?_
    change Awp _ _ _ _ _
    refine awp_seq ?_
    refine awp_region 1 mixed (by kernel_rfl) ?_
    refine rg_q (q_a rfl) ?_
    refine rn ?_
    change Awp _ _ _ _ _
    refine awp_ret ?_
    refine ⟨_, (.cons (.tmp (by exact .d _)) .nil), ?_⟩
    rw [hz]; rfl

def oneM : Md := ⟨2500, 5000, 0, 1000⟩
def oneS : Spc := ⟨⟨[(0, -300)], oneM, oneM, (3900000, 50000)⟩, [3, -2], [⟨0, (0, 400), (0, 0), 0, 10, 0⟩]⟩
def exF : Flw := ⟨1, (0, 400), (30, 400), 4, 5, 2⟩
def exB : List Nat := 0 :: 0 :: 1106247680 :: 3248488448 :: List.replicate 60 0
theorem ex_ech : echR oneS.ar (0, 400) (0, 0) = (3999980, 0) := by decide +kernel
theorem ex_pof : pofR exF = ([((0, 400), 2), ((8, 400), 5), ((15, 400), 5), ((23, 400), 5), ((30, 400), 2)], 0) := by decide +kernel
theorem ex_smT : smT oneS.ar oneS.pl (0, 0) (ptsS oneS) (ptsS oneS).length = 0 :: 0 :: 30 :: -20 :: List.replicate 60 0 := by decide +kernel
theorem ex_tc : tcR oneS (0, 0) = (exB.map fd, 0) := by
  have h1 : (ckSpc oneS).2 = 0 := by decide +kernel
  have h2 : pairE oneS.ar.el.length (0, 0) = 0 := by decide +kernel
  unfold tcR
  rw [if_neg (fun q => q h1), if_neg (fun q => q h2)]
  unfold trcR
  rw [ex_smT, if_neg (by decide +kernel)]
  have h3 : (0 :: 0 :: 30 :: -20 :: List.replicate 60 0 : List Int).map FloatKind.f32.nearest = exB := by decide +kernel
  rw [← h3, List.map_map]; rfl
set_option maxRecDepth 100000 in
theorem one_p  : PC Try.prog 28 [] (.agg (spcC oneS)) := by
 refine pc_of_awp Try.func28 rfl Try.ntmps28 (rs := [.cell 0 40]) Try.results28 (by simp) fun w0 => ?_
 refine awp_seq ?_
 refine awp_region 0 mixed (by kernel_rfl) ?_
 refine rg_nil ?_
 refine aops_alloc zr40 rfl rfl rfl ?_
 refine aops_nil ?_
 change Awp _ _ _ _ _
 refine awp_seq ?_
 refine awp_region 1 mixed (by kernel_rfl) ?_
 refine rg_q (q_build (cs := [_, _, _, _]) pl33 zr33 rfl (.cons rfl (by exact .inl rfl) (.cons rfl (by exact .inl rfl) (.cons rfl (by exact .inl rfl) .nil))) ⟨⟨rfl, by decide⟩, ⟨rfl, by decide⟩, ⟨rfl, by decide⟩, trivial⟩ rfl) ?_
 refine rg_nil ?_
 refine aops_alloc zr33 rfl rfl rfl ?_
 refine aops_store sz33 rfl rfl (by exact .inr ⟨_, rfl⟩) rfl rfl (by decide) rfl ?_
 refine aops_nil ?_
 change Awp _ _ _ _ _
 refine awp_seq ?_
 refine awp_region 11 mixed (by kernel_rfl) ?_
 refine rg_q (q_build (cs := [_, _]) pl46 zr46 rfl (.cons rfl (by exact .inl rfl) (.cons rfl (by exact .inl rfl) .nil)) ⟨⟨rfl, by decide⟩, ⟨rfl, by decide⟩, trivial⟩ rfl) ?_
 refine rg_q (q_buildSlice sl31 zr46 rfl rfl (by decide) (.cons rfl (by exact .inr ⟨_, rfl⟩) .nil) ⟨rfl, rfl, trivial⟩ rfl (by decide) rfl) ?_
 refine rg_q (q_load_refA (ds := [_, _, _, _]) sz33 rfl rfl rfl rfl) ?_
 refine rg_q (q_load_refA (ds := [_, _, _, _]) sz33 rfl rfl rfl rfl) ?_
 refine rg_q (q_build (cs := [_, _]) pl35 zr35 rfl (.cons rfl (by exact .inl rfl) (.cons rfl (by exact .inl rfl) .nil)) ⟨⟨rfl, by decide⟩, ⟨rfl, by decide⟩, trivial⟩ rfl) ?_
 refine rg_q (q_build (cs := [_, _, _, _, _, _, _, _, _, _, _]) pl37 zr37 rfl (.cons rfl (by exact .inl rfl) (.cons rfl (by exact .inr ⟨_, rfl⟩) (.cons rfl (by exact .inr ⟨_, rfl⟩) (.cons rfl (by exact .inr ⟨_, rfl⟩) .nil)))) ⟨⟨rfl, by decide⟩, ⟨rfl, by decide⟩, ⟨rfl, by decide⟩, ⟨rfl, by decide⟩, trivial⟩ rfl) ?_
 refine rg_q (q_buildSlice sl23 zr3 rfl rfl (by decide) (.cons rfl (by exact .inl rfl) (.cons rfl (by exact .inl rfl) .nil)) ⟨rfl, rfl, rfl, rfl, trivial⟩ rfl (by decide) rfl) ?_
 refine rg_q (q_build (cs := [_, _]) pl46 zr46 rfl (.cons rfl (by exact .inl rfl) (.cons rfl (by exact .inl rfl) .nil)) ⟨⟨rfl, by decide⟩, ⟨rfl, by decide⟩, trivial⟩ rfl) ?_
 refine rg_q (q_build (cs := [_, _, _, _, _, _, _, _]) pl48 zr48 rfl (.cons rfl (by exact .inr ⟨_, rfl⟩) (.cons rfl (by exact .inl rfl) .nil)) ⟨⟨rfl, by decide⟩, ⟨rfl, by decide⟩, trivial⟩ rfl) ?_
 refine rg_q (q_buildSlice sl38 zr48 rfl rfl (by decide) (.cons rfl (by exact .inr ⟨_, rfl⟩) .nil) ⟨rfl, rfl, trivial⟩ rfl (by decide) rfl) ?_
 refine rg_q (q_build pl40 zr40 rfl (.cons rfl (by exact .inr ⟨_, rfl⟩) (.cons rfl (by exact .inl rfl) (.cons rfl (by exact .inl rfl) .nil))) ⟨⟨rfl, by decide⟩, ⟨rfl, by decide⟩, ⟨rfl, by decide⟩, trivial⟩ rfl) ?_
 refine rg_nil ?_
 refine aops_store sz40 rfl rfl (by exact .inr ⟨_, rfl⟩) rfl rfl (by decide) rfl ?_
 refine aops_nil ?_
 change Awp _ _ _ _ _
 refine awp_ret ?_
 refine ⟨_, (.cons (.cellA rfl rfl sz40 rfl) .nil), ?_⟩
 rfl
set_option maxRecDepth 100000 in
theorem awake_p  : PC Try.prog 6 [] (.v (.bool (true))) := by
 refine pc_of_awpN Try.func6 rfl Try.ntmps6 (rs := [.tmp 0]) Try.results6 (by simp) fun w0 hmine hrnd hpn => ?_
 refine awp_seq ?_
 refine awp_region 1 mixed (by kernel_rfl) ?_
 refine rg_q (q_a rfl) ?_
 refine rs (awp_region 10 mixed (by kernel_rfl) ?_)
 refine rg_q (q_call en28 .nil rfl (one_p)) ?_
 refine rg_q (q_fieldA fd40_0 sz37 rfl rfl rfl) ?_
 refine rg_q (q_build (cs := [_, _]) pl46 zr46 rfl (.cons rfl (by exact .inl rfl) (.cons rfl (by exact .inl rfl) .nil)) ⟨⟨rfl, by decide⟩, ⟨rfl, by decide⟩, trivial⟩ rfl) ?_
 refine rg_q (q_buildA (cs := [_, _]) ar41 zr41 rfl .nil trivial rfl) ?_
 refine rg_q (q_call en27 (.cons rfl (.cons rfl (.cons rfl .nil))) rfl ((by have h := echoAt_p oneS.ar (0, 400) (0, 0); rw [ex_ech] at h; exact h))) ?_
 refine rg_q (q_move (x := .d (.tup _)) rfl) (rg_q (q_extract rfl rfl) (rg_q (q_extract rfl rfl) (rg_q (q_a rfl) (rg_q (q_a rfl) ?_))))
 refine rs (awp_region 6 mixed (by kernel_rfl) ?_)
 refine rg_q (q_call en28 .nil rfl (one_p)) ?_
 refine rg_q (q_buildA (cs := [_, _]) ar41 zr41 rfl .nil trivial rfl) ?_
 refine rg_q (q_call en18 (.cons rfl (.cons rfl .nil)) rfl ((by have h := traceOfS_p oneS (0, 0); rw [ex_tc] at h; exact h))) ?_
 refine rg_q (q_move (x := .d (.tup _)) rfl) (rg_q (q_extract rfl rfl) (rg_q (q_extract rfl rfl) ?_))
 refine rg_nil ?_
 refine aops_alloc zr54 rfl rfl rfl ?_
 refine aops_store (cs' := exB.map fd) sz54 rfl rfl (by exact .inr ⟨_, rfl⟩) rfl rfl (Nat.le_of_ble_eq_true rfl) rfl ?_
 refine aops_q rfl (q_a rfl) ?_
 refine aops_nil ?_
 change Awp _ _ _ _ _
 refine awp_seq ?_
 refine awp_region 9 mixed (by kernel_rfl) ?_
 refine rg_q (q_build (cs := [_, _]) pl46 zr46 rfl (.cons rfl (by exact .inl rfl) (.cons rfl (by exact .inl rfl) .nil)) ⟨⟨rfl, by decide⟩, ⟨rfl, by decide⟩, trivial⟩ rfl) ?_
 refine rg_q (q_build (cs := [_, _]) pl46 zr46 rfl (.cons rfl (by exact .inl rfl) (.cons rfl (by exact .inl rfl) .nil)) ⟨⟨rfl, by decide⟩, ⟨rfl, by decide⟩, trivial⟩ rfl) ?_
 refine rg_q (q_build (cs := [_, _, _, _, _, _, _, _]) pl48 zr48 rfl (.cons rfl (by exact .inl rfl) (.cons rfl (by exact .inr ⟨_, rfl⟩) (.cons rfl (by exact .inr ⟨_, rfl⟩) (.cons rfl (by exact .inl rfl) (.cons rfl (by exact .inl rfl) (.cons rfl (by exact .inl rfl) .nil)))))) ⟨⟨rfl, by decide⟩, ⟨rfl, by decide⟩, ⟨rfl, by decide⟩, ⟨rfl, by decide⟩, ⟨rfl, by decide⟩, ⟨rfl, by decide⟩, trivial⟩ rfl) ?_
 refine rg_q (q_call en29 (.cons rfl .nil) rfl ((by have h := pointsOf_p exF; rw [ex_pof] at h; exact h))) ?_
 refine rg_q (q_move (x := .d (.tup _)) rfl) (rg_q (q_extract rfl rfl) (rg_q (q_extract rfl rfl) (rg_q (q_assign (x := .d (.sl _ _)) rfl) (rg_q (q_a rfl) ?_))))
 refine rs (awp_region 35 mixed (by kernel_rfl) ?_)
 refine rg_q (q_m rfl) (rg_q (q_eql rfl rfl) (rg_q (q_m rfl) ?_))
 refine rg_g rfl rfl (fun hG => (q_m rfl)) ?_
 refine rg_g rfl rfl (fun hG => (q_eql rfl rfl)) ?_
 refine rg_pick rfl rfl rfl rfl rfl rfl ?_
 refine rg_q (q_m rfl) ?_
 refine rg_g rfl rfl (fun hG => (q_m rfl)) ?_
 refine rg_g rfl rfl (fun hG => (q_eql rfl rfl)) ?_
 refine rg_pick rfl rfl rfl rfl rfl rfl ?_
 refine rg_q (q_m rfl) ?_
 refine rg_g rfl rfl (fun hG => (q_load_refA sz54 rfl rfl rfl rfl)) ?_
 refine rg_g rfl rfl (fun hG => (q_buildA ar54 zr54 rfl (.cons rfl (by exact .inl rfl) (.cons rfl (by exact .inl rfl) .nil)) ⟨⟨rfl, by decide⟩, ⟨rfl, by decide⟩, trivial⟩ rfl)) ?_
 refine rg_g rfl rfl (fun hG => (q_call en20 (.cons rfl (.cons rfl .nil)) rfl (sameTrace_p exB exB rfl rfl))) ?_
 refine rg_pick rfl rfl rfl rfl rfl rfl ?_
 refine rg_q (q_m rfl) ?_
 refine rg_g rfl rfl (fun hG => (q_m rfl)) ?_
 refine rg_g rfl rfl (fun hG => (q_eql rfl rfl)) ?_
 refine rg_pick rfl rfl rfl rfl rfl rfl ?_
 refine rg_q (q_m rfl) ?_
 refine rg_g rfl rfl (fun hG => (q_move (x := .d (.sl _ _)) rfl)) ?_
 refine rg_g rfl rfl (fun hG => (q_build (cs := [_, _]) pl46 zr46 rfl (.cons rfl (by exact .inl rfl) (.cons rfl (by exact .inl rfl) .nil)) ⟨⟨rfl, by decide⟩, ⟨rfl, by decide⟩, trivial⟩ rfl)) ?_
 refine rg_g rfl rfl (fun hG => (q_build (cs := [_, _, _]) pl82 zr82 rfl (.cons rfl (by exact .inr ⟨_, rfl⟩) (.cons rfl (by exact .inl rfl) .nil)) ⟨⟨rfl, by decide⟩, ⟨rfl, by decide⟩, trivial⟩ rfl)) ?_
 refine rg_g rfl rfl (fun hG => (q_build (cs := [_, _]) pl46 zr46 rfl (.cons rfl (by exact .inl rfl) (.cons rfl (by exact .inl rfl) .nil)) ⟨⟨rfl, by decide⟩, ⟨rfl, by decide⟩, trivial⟩ rfl)) ?_
 refine rg_g rfl rfl (fun hG => (q_build (cs := [_, _, _]) pl82 zr82 rfl (.cons rfl (by exact .inr ⟨_, rfl⟩) (.cons rfl (by exact .inl rfl) .nil)) ⟨⟨rfl, by decide⟩, ⟨rfl, by decide⟩, trivial⟩ rfl)) ?_
 refine rg_g rfl rfl (fun hG => (q_build (cs := [_, _]) pl46 zr46 rfl (.cons rfl (by exact .inl rfl) (.cons rfl (by exact .inl rfl) .nil)) ⟨⟨rfl, by decide⟩, ⟨rfl, by decide⟩, trivial⟩ rfl)) ?_
 refine rg_g rfl rfl (fun hG => (q_build (cs := [_, _, _]) pl82 zr82 rfl (.cons rfl (by exact .inr ⟨_, rfl⟩) (.cons rfl (by exact .inl rfl) .nil)) ⟨⟨rfl, by decide⟩, ⟨rfl, by decide⟩, trivial⟩ rfl)) ?_
 refine rg_g rfl rfl (fun hG => (q_build (cs := [_, _]) pl46 zr46 rfl (.cons rfl (by exact .inl rfl) (.cons rfl (by exact .inl rfl) .nil)) ⟨⟨rfl, by decide⟩, ⟨rfl, by decide⟩, trivial⟩ rfl)) ?_
 refine rg_g rfl rfl (fun hG => (q_build (cs := [_, _, _]) pl82 zr82 rfl (.cons rfl (by exact .inr ⟨_, rfl⟩) (.cons rfl (by exact .inl rfl) .nil)) ⟨⟨rfl, by decide⟩, ⟨rfl, by decide⟩, trivial⟩ rfl)) ?_
 refine rg_g rfl rfl (fun hG => (q_build (cs := [_, _]) pl46 zr46 rfl (.cons rfl (by exact .inl rfl) (.cons rfl (by exact .inl rfl) .nil)) ⟨⟨rfl, by decide⟩, ⟨rfl, by decide⟩, trivial⟩ rfl)) ?_
 refine rg_g rfl rfl (fun hG => (q_build (cs := [_, _, _]) pl82 zr82 rfl (.cons rfl (by exact .inr ⟨_, rfl⟩) (.cons rfl (by exact .inl rfl) .nil)) ⟨⟨rfl, by decide⟩, ⟨rfl, by decide⟩, trivial⟩ rfl)) ?_
 refine rg_g rfl rfl (fun hG => (q_buildSlice sl77 zr82 rfl rfl (by decide) (.cons rfl (by exact .inr ⟨_, rfl⟩) (.cons rfl (by exact .inr ⟨_, rfl⟩) (.cons rfl (by exact .inr ⟨_, rfl⟩) (.cons rfl (by exact .inr ⟨_, rfl⟩) (.cons rfl (by exact .inr ⟨_, rfl⟩) .nil))))) ⟨rfl, rfl, rfl, rfl, rfl, rfl, rfl, rfl, rfl, rfl, trivial⟩ rfl (by decide) rfl)) ?_
 refine rg_g rfl rfl (fun hG => (q_call en30 (.cons rfl (.cons rfl .nil)) rfl (samePoints_p [((0, 400), 2), ((8, 400), 5), ((15, 400), 5), ((23, 400), 5), ((30, 400), 2)] [((0, 400), 2), ((8, 400), 5), ((15, 400), 5), ((23, 400), 5), ((30, 400), 2)]))) ?_
 refine rg_pick rfl rfl rfl rfl rfl rfl ?_
 refine rg_q (q_a rfl) ?_
 refine rn ?_
 change Awp _ _ _ _ _
 refine awp_ret ?_
 refine ⟨_, (.cons (.tmp (by exact .d _)) .nil), ?_⟩
 simp [retD]
end Go.Proofs.Ytamaocfjknpadaa.Am.M
-- mini
namespace Go.Proofs.Ytamaocfjknpadaa.Am.M
open Go
end Go.Proofs.Ytamaocfjknpadaa.Am.M
-- mini
namespace Go.Proofs.Ytamaocfjknpadaa.Am.M
open Go
end Go.Proofs.Ytamaocfjknpadaa.Am.M
namespace Go.Proofs.Ytamaocfjknpadaa.Am.M
open Go
end Go.Proofs.Ytamaocfjknpadaa.Am.M
namespace Go.Proofs.Ytamaocfjknpadaa.Am.M
open Go

end Go.Proofs.Ytamaocfjknpadaa.Am.M
-- mini
namespace Go.Proofs.Ytamaocfjknpadaa.Am.M
open Go

end Go.Proofs.Ytamaocfjknpadaa.Am.M
-- mini
namespace Go.Proofs.Ytamaocfjknpadaa.Am.M
open Go
end Go.Proofs.Ytamaocfjknpadaa.Am.M
namespace Go.Proofs.Ytamaocfjknpadaa.Am.M
open Go

end Go.Proofs.Ytamaocfjknpadaa.Am.M
namespace Go.Proofs.Ytamaocfjknpadaa.Am.M
open Go

end Go.Proofs.Ytamaocfjknpadaa.Am.M
