/- The abstract machine, part 13: variables that change, slices that are made and appended to. Conditions: none. -/
import Derived.Test.YtgdcidbpadhkpaaAm12
import Derived.OwnWalk
set_option linter.unusedVariables false
set_option linter.unusedSimpArgs false
namespace Go.Proofs.Ytgdcidbpadhkpaa.Am
open Go

section
variable {P : Program} {w0 : Cx} {ops : List Oper} {rest : List Oper} {R : Exit → St → Prop} {st : St} {ty : TypeId} {pos : String} {after : Array Edge}

theorem aops_box {d : Nat} {e : TypeId} {y : Operand} {X : D} {cs : List D} (hy : st.ev y = .d X) (hX : X.sc = true ∨ ∃ cs, X = .agg cs) (hd : Nat.blt d st.n = true) (hs : st.s d = .no) (hcs : X.cells = cs) (h : Aops P w0 ops rest R ((st.site d (.box cs)).put (some d) (.ref d 0))) :
    Aops P w0 ops (⟨some d, .box e y, ty, pos, after, none⟩ :: rest) R st := by
  subst hcs
  refine aops_step (K := fun s => s = (st.site d (.box X.cells)).put (some d) (.ref d 0)) rfl (fun a w ⟨blk, val, hh⟩ => ?_) (fun _ e => e ▸ h)
  have hr : Rep w (okOf w0 blk) X (a.eval y) := by have := hh.ev y; rw [hy] at this; exact this
  obtain ⟨hL, hsc⟩ := cells_inv hr hX
  have hE : Ext w (w.alloc (.cells (a.eval y).cells e)) := (Ext.refl w).alloc _
  refine wp_value (v := .pointer (some ⟨w.heap.size, 0, none⟩)) (w' := w.alloc (.cells (a.eval y).cells e)) (by simp [execOp, Instr.box, newVar, newRow]) ⟨_, rfl, ?_⟩
  have hH := hh.allocSite (k := d) (x := .box X.cells) (u := undef) (o := .cells (a.eval y).cells e) hs ⟨w.heap.size, e, (a.eval y).cells, rfl, new_block _ _, by have := hL.length; simpa using this, hsc, fun j x hx => by
      obtain ⟨v, hv, hr⟩ := hL.at_ hx
      refine ⟨v, by simpa using hv, (hr.ok (ok' := fun b => okOf w0 blk b ∧ b ≠ w.heap.size) fun b hb h => ⟨h, by omega⟩).ext hE fun _ _ h => h⟩⟩
  exact ⟨_, _, put_hold hH (by simpa [Nat.blt_eq, St.site] using hd) ⟨by simp [St.site], w.heap.size, by simp, rfl⟩⟩

def byB (P : Program) (e b : Nat) : Bool := match P.info? e with | some i => i.bytes == b | none => false
theorem byB_info {e b : Nat} (h : byB P e b = true) : ∃ i, P.info? e = some i ∧ i.bytes = b := by
  unfold byB at h
  cases hu : P.info? e with
  | none => simp [hu] at h
  | some d => simp [hu] at h; exact ⟨d, rfl, h⟩
theorem zrB_info {e : Nat} {z : Value} {i : TypeInfo} (h : zrB P e z) (hi : P.info? e = some i) : i.zero = some z := by
  unfold zrB at h; rw [hi] at h; exact h
theorem aops_make {d : Nat} {t e sz b m : Nat} {z : Value} {l c : Operand} (ht : slB P t e sz = true) (hz : zrB P e z) (hb : byB P e b = true) (h1 : z.cells.toList.all Value.oneCell' = true) (hzs : z.cells.size = sz) (hl : st.ev l = T.i (m : Int)) (hc : st.ev c = T.i (m : Int))
    (hbm : b * m ≤ 281474976710656) (hm : m ≤ 9223372036854775807) (hd : Nat.blt d st.n = true) (hs : st.s d = .no) (h : Aops P w0 ops rest R ((st.site d (.row e sz (List.replicate m (constD z)))).put (some d) (.rs d))) :
    Aops P w0 ops (⟨some d, .makeSlice t l c, ty, pos, after, none⟩ :: rest) R st := by
  refine aops_step (K := fun s => s = (st.site d (.row e sz (List.replicate m (constD z)))).put (some d) (.rs d)) rfl (fun a w ⟨blk, val, hh⟩ => ?_) (fun _ e => e ▸ h)
  obtain ⟨i, hi, hsi⟩ := slB_info ht
  obtain ⟨i', hi', hbi⟩ := byB_info hb
  rw [hi] at hi'; cases hi'
  have hv1 : a.eval l = .int .i64 (m : Int) := by have := hh.ev l; rw [hl] at this; exact Rep.v_eq this
  have hv2 : a.eval c = .int .i64 (m : Int) := by have := hh.ev c; rw [hc] at this; exact Rep.v_eq this
  have hmk := run_make (P := P) w t e i z (slB_under ht) hi (zrB_info hz hi) .i64 .i64 (m : Int) (m : Int) (by omega) (by omega) (by rw [hbi]; omega) (by omega)
  simp only [Int.toNat_natCast, hsi] at hmk
  refine wp_value (v := .slice (some ⟨w.heap.size, 0, none⟩) m m) (w' := w.alloc (.cells (madeCells z.cells (m * sz)) e)) (by simp [execOp, hv1, hv2, hmk]) ⟨_, rfl, ?_⟩
  have hcl : ∀ x ∈ constD z, x.sc = true := (constD_rep (w := w) (ok := fun _ => True) h1).2
  have hlen : (constD z).length = sz := by simp [constD, hzs]
  have hrep : ∀ (i : Nat) (x : List D), (List.replicate m (constD z))[i]? = some x → i < m ∧ x = constD z := fun i x hx => by
    rw [List.getElem?_replicate] at hx
    split at hx
    · rename_i h; cases hx; exact ⟨h, rfl⟩
    · cases hx
  have hH := hh.allocSite (k := d) (x := .row e sz (List.replicate m (constD z))) (u := .slice (some ⟨w.heap.size, 0, none⟩) m m) (o := .cells (madeCells z.cells (m * sz)) e) hs ⟨fun i x hx => by rw [(hrep i x hx).2, hlen], fun i x j y hx hy => by
      rw [(hrep i x hx).2] at hy; exact hcl y (List.mem_of_getElem? hy), .inr ⟨w.heap.size, madeCells z.cells (m * sz), m, rfl, by simp, by simp, by simpa [maxLen] using hm, new_block _ _, by simp [madeCells], fun i x j y hx hy => by
      obtain ⟨him, rfl⟩ := hrep i x hx
      have hj : j < sz := by have := (List.getElem?_eq_some_iff.1 hy).1; omega
      have hq : i * sz + j < m * sz := by
        have : (i + 1) * sz ≤ m * sz := Nat.mul_le_mul_right _ him
        rw [Nat.succ_mul] at this; omega
      have hmod : (i * sz + j) % sz = j := by rw [Nat.add_comm, Nat.add_mul_mod_self_right, Nat.mod_eq_of_lt hj]
      simp only [constD, List.getElem?_map] at hy
      cases hzj : z.cells.toList[j]? with
      | none => rw [hzj] at hy; cases hy
      | some u =>
        rw [hzj] at hy; cases hy
        have hzj' : z.cells[j]? = some u := by simpa using hzj
        have hjz : j < z.cells.size := by omega
        refine ⟨u, ?_, .v u (List.all_eq_true.1 h1 u (List.mem_of_getElem? hzj))⟩
        simp only [madeCells, Array.getElem?_map, hzs, hmod]
        have hbang : z.cells[j]! = u := by rw [getElem!_def, hzj']
        simp [hq, Nat.mod_eq_of_lt hj, hbang]⟩⟩
  exact ⟨_, _, put_hold hH (by simpa [Nat.blt_eq, St.site] using hd) ⟨⟨e, sz, _, by simp [St.site]; rfl⟩, by simp⟩⟩

theorem aops_empty {d : Nat} {t e sz : Nat} {z : Value} (ht : slB P t e sz = true) (hz : zrB P e z) (hd : Nat.blt d st.n = true) (hs : st.s d = .no) (h : Aops P w0 ops rest R ((st.site d (.row e sz [])).put (some d) (.rs d))) :
    Aops P w0 ops (⟨some d, .buildSlice t 0 #[], ty, pos, after, none⟩ :: rest) R st := by
  refine aops_step (K := fun s => s = (st.site d (.row e sz [])).put (some d) (.rs d)) rfl (fun a w ⟨blk, val, hh⟩ => ?_) (fun _ e => e ▸ h)
  obtain ⟨i, hi, hsi⟩ := slB_info ht
  refine wp_value (v := .slice (some ⟨w.heap.size, 0, none⟩) 0 0) (w' := w.alloc (.cells #[] e)) (by
    have hr0 : Array.range 0 = #[] := rfl
    have hma : ∀ f : Nat → Value, Array.map f #[] = #[] := fun f => by simp
    simp [execOp, Instr.buildSlice, run_underlying (slB_under ht), sizeOf, my_typeInfo hi, hr0, Instr.fill, newRow]) ⟨_, rfl, ?_⟩
  have hH := hh.allocSite (k := d) (x := .row e sz []) (u := .slice (some ⟨w.heap.size, 0, none⟩) 0 0) (o := .cells #[] e) hs ⟨fun i x hx => by simp at hx, fun i x j y hx => by simp at hx, .inr ⟨w.heap.size, #[], 0, rfl, rfl, Nat.le_refl _, Nat.zero_le _, new_block _ _, by simp, fun i x j y hx => by simp at hx⟩⟩
  exact ⟨_, _, put_hold hH (by simpa [Nat.blt_eq, St.site] using hd) ⟨⟨e, sz, [], by simp [St.site]⟩, by simp⟩⟩

def St.killS (st : St) (k : Nat) : St := { st with t := fun t => killT [k] (st.t t), s := fun j => killSite [k] (st.s j) }
/-- The row of site k takes its new form. -/
theorem Hold.grow {a : Act} {w w' : World} {blk : Nat → Option Nat} {val : Nat → Value} {k : Nat} {x : Site} {u : Value} {nb : Option Nat} (hh : Hold w0 st a w blk val) (hg : w.grownBy w' (blk k)) (hnb : ∀ b, nb = some b → Ours w0 b ∧ b < w'.heap.size) (hfresh : ∀ b, nb = some b → blk k = some b ∨ w.heap.size ≤ b)
    (hx : SiteIn w' (fun b => okOf w0 blk b ∧ nb ≠ some b ∧ b < w.heap.size) blk val st.s nb u x) (hrow : ∃ e sz es, x = .row e sz es) (hkr : (st.s k).isVar = false) : Hold w0 ((st.killS k).site k x) a w' (fun j => bif Nat.beq j k then nb else blk j) (fun j => bif Nat.beq j k then u else val j) := by
  have keepOk : ∀ b o, (okOf w0 blk b) → w.heap[b]? = some o → w'.heap[b]? = some o := fun b o hok ho => by
    rw [hg.block b (heap_lt ho) (fun e => hok.2 k e.symm)]; exact ho
  have hok : ∀ b, okOf w0 blk b → b < w.heap.size → okOf w0 (fun j => bif Nat.beq j k then nb else blk j) b := fun b h hlt => ⟨h.1, fun j hj => by
    cases hjk : Nat.beq j k <;> simp only [hjk, cond_true, cond_false] at hj
    · exact h.2 j hj
    · rcases hfresh b hj with e | e
      · exact h.2 k e
      · omega⟩
  have keep : ∀ {d : D} {v : Value}, Rep w (okOf w0 blk) d v → Rep w' (okOf w0 (fun j => bif Nat.beq j k then nb else blk j)) d v := fun h =>
    h.keep hg.size (fun b o h1 h2 => keepOk b o h1 h2) fun b hb h => hok b h hb
  have hbj : ∀ j c, Nat.beq j k = false → blk j = some c → c < w.heap.size ∧ blk k ≠ some c := fun j c hjk hc => ⟨(hh.new j c hc).2, fun e => by
    have := hh.inj j k c hc e
    subst this; simp at hjk⟩
  obtain ⟨ex, szx, esx, hxr⟩ := hrow
  -- a temporary that does not speak of site k
  have keepT : ∀ {y : T} {v : Value}, RepT w (okOf w0 blk) blk val st.s y v → RepT w' (okOf w0 (fun j => bif Nat.beq j k then nb else blk j)) (fun j => bif Nat.beq j k then nb else blk j) (fun j => bif Nat.beq j k then u else val j) ((st.killS k).site k x).s (killT [k] y) v := fun {y v} h => by
    cases y with
    | d y => exact keep h
    | ref j o =>
      simp only [killT, memN, Bool.or_false]
      cases hjk : Nat.beq j k
      · obtain ⟨q1, c, q2, q3⟩ := h
        exact ⟨by simp only [St.site, St.killS, hjk, cond_false]; exact killSite_row.1 q1, c, by simp only [hjk, cond_false]; exact q2, q3⟩
      · trivial
    | rs j =>
      simp only [killT, memN, Bool.or_false]
      cases hjk : Nat.beq j k
      · obtain ⟨q1, q3⟩ := h
        exact ⟨by simp only [St.site, St.killS, hjk, cond_false]; exact killSite_row.2 q1, by simp only [hjk, cond_false]; exact q3⟩
      · trivial
    | un => exact h
    | dead => trivial
  refine ⟨⟨hg.os.trans hh.ext.os, hg.tape.trans hh.ext.tape, hg.output.trans hh.ext.output, Nat.le_trans hh.ext.size hg.size, fun j hj hm => ?_⟩, hh.defers, hh.size, fun j c hj => ?_, fun i j c hi hj => ?_, fun j c hj => ?_, fun j => ?_, fun t => ?_⟩
  · rw [hg.block j (Nat.lt_of_lt_of_le hj hh.ext.size) (fun e => by rcases (hh.new k j e.symm).1 with q | q; omega; exact hm q)]; exact hh.ext.block j hj hm
  · cases hjk : Nat.beq j k <;> simp only [hjk, cond_true, cond_false] at hj
    · exact ⟨(hh.new j c hj).1, Nat.lt_of_lt_of_le (hh.new j c hj).2 hg.size⟩
    · exact hnb c hj
  · cases hik : Nat.beq i k <;> cases hjk : Nat.beq j k <;> simp only [hik, hjk, cond_true, cond_false] at hi hj
    · exact hh.inj i j c hi hj
    · obtain ⟨q1, q2⟩ := hbj i c hik hi
      rcases hfresh c hj with e | e
      · exact absurd e q2
      · omega
    · obtain ⟨q1, q2⟩ := hbj j c hjk hj
      rcases hfresh c hi with e | e
      · exact absurd e q2
      · omega
    · rw [Nat.eq_of_beq_eq_true hik, Nat.eq_of_beq_eq_true hjk]
  · obtain ⟨q1, q2, q3⟩ := hh.pin j c hj
    have hjk : Nat.beq j k = false := by rw [← Bool.not_eq_true]; intro e; rw [Nat.eq_of_beq_eq_true e, hkr] at q2; cases q2
    refine ⟨by simp only [hjk, cond_false]; exact q1, ?_, q3⟩
    simp only [St.site, St.killS, hjk, cond_false]
    cases hs : st.s j <;> rw [hs] at q2 <;> first | rfl | cases q2
  · cases hjk : Nat.beq j k
    · have hs := hh.site j
      have e1 : ((st.killS k).site k x).s j = killSite [k] (st.s j) := by simp only [St.site, St.killS, hjk, cond_false]
      rw [e1]
      simp only [cond_false]
      cases hsj : st.s j with
      | no => rw [hsj] at hs; exact hs
      | box cs' =>
        rw [hsj] at hs
        obtain ⟨c, e, vals, h1, h2, h3, h4, h5⟩ := hs
        obtain ⟨q1, q2⟩ := hbj j c hjk h1
        exact ⟨c, e, vals, h1, by rw [hg.block c q1 (fun e => q2 e.symm)]; exact h2, h3, h4, fun j d hd => let ⟨v, hv, hr⟩ := h5 j d hd; ⟨v, hv, keep hr⟩⟩
      | tbox cs' =>
        rw [hsj] at hs
        obtain ⟨c, e, vals, h1, h2, h3, h5⟩ := hs
        obtain ⟨q1, q2⟩ := hbj j c hjk h1
        refine ⟨c, e, vals, h1, by rw [hg.block c q1 (fun e => q2 e.symm)]; exact h2, by simpa using h3, fun i y hy => ?_⟩
        rw [List.getElem?_map] at hy
        cases hi : cs'[i]? with
        | none => rw [hi] at hy; cases hy
        | some z =>
          rw [hi] at hy; cases hy
          obtain ⟨v, hv, ho, hr⟩ := h5 i z hi
          exact ⟨v, hv, ho, keepT hr⟩
      | row e sz es =>
        rw [hsj] at hs
        obtain ⟨h1, h2, h3⟩ := hs
        exact ⟨h1, h2, h3.imp id fun ⟨c, vals, cap, k1, k2, k3, k4, k5, k6, k7⟩ => by
          obtain ⟨q1, q2⟩ := hbj j c hjk k1
          exact ⟨c, vals, cap, k1, k2, k3, k4, by rw [hg.block c q1 (fun e => q2 e.symm)]; exact k5, k6, fun i x j d hi hj => let ⟨v, hv, hr⟩ := k7 i x j d hi hj; ⟨v, hv, keep hr⟩⟩⟩
    · have e1 : ((st.killS k).site k x).s j = x := by simp only [St.site, hjk, cond_true]
      rw [e1]
      simp only [cond_true]
      subst hxr
      refine hx.to (fun b hb h => hok b h.1 h.2.2) (.inl rfl) fun cs hcs => by cases hcs
  · exact keepT (hh.tmp t)
theorem mul_lt_of {i j sz m : Nat} (h1 : i < m) (h2 : j < sz) : i * sz + j < m * sz := by
  have : (i + 1) * sz ≤ m * sz := Nat.mul_le_mul_right _ h1
  rw [Nat.succ_mul] at this; omega
theorem aops_appendW {d k : Nat} {t e sz b m : Nat} {z : Value} {y x : Operand} {es news es' : List (List D)} (ht : slB P t e sz = true) (hz : zrB P e z) (hb : byB P e b = true) (hzs : z.cells.size = sz) (hs0 : 0 < sz) (hy : st.ev y = .rs k) (hk : st.s k = .row e sz es) 
    (hX : ∀ (a : Act) (w : World) (blk : Nat → Option Nat) (val : Nat → Value), Hold w0 st a w blk val → ∃ A cap, a.eval x = .slice A news.length cap ∧ news.length ≤ cap ∧ cap ≤ maxLen ∧ (∀ (i : Nat) (e : List D), news[i]? = some e → e.length = sz) ∧ (∀ (i : Nat) (e : List D) (j : Nat) (d : D), news[i]? = some e → e[j]? = some d → d.sc = true) ∧
      (news = [] ∨ ∃ (b off : Nat) (vs : Nat → Nat → Value), A = some ⟨b, off, none⟩ ∧ b < w.heap.size ∧ True ∧
      (∀ (i : Nat) (e : List D) (j : Nat) (d : D), news[i]? = some e → e[j]? = some d → w.cell? ⟨b, off + i * sz + j, none⟩ = some (vs i j)) ∧ ∀ (i : Nat) (e : List D) (j : Nat) (d : D), news[i]? = some e → e[j]? = some d → Rep w (okOf w0 blk) d (vs i j)))
    (hm : news.length = m) (hbm : (es.length + m) * b ≤ 140737488355328) (hmax : es.length + m ≤ 9223372036854775807) (hd : Nat.blt d st.n = true) (hes : es ++ news = es') (h : Aops P w0 ops rest R (((st.killS k).site k (.row e sz es')).put (some d) (.rs k))) :
    Aops P w0 ops (⟨some d, .call ⟨.builtin .append, #[y, x], #[t, t]⟩, ty, pos, after, none⟩ :: rest) R st := by
  subst hes
  subst hm
  refine aops_step (K := fun s => s = ((st.killS k).site k (.row e sz (es ++ news))).put (some d) (.rs k)) rfl (fun a w ⟨blk, val, hh⟩ => ?_) (fun _ e => e ▸ h)
  obtain ⟨i, hi, hsi⟩ := slB_info ht
  obtain ⟨i', hi', hbi⟩ := byB_info hb
  rw [hi] at hi'; cases hi'
  have h1 := hh.ev y
  rw [hy] at h1
  obtain ⟨_, hv⟩ := h1
  have h2 := hh.site k
  rw [hk] at h2
  obtain ⟨a1, a2, a3⟩ := h2
  obtain ⟨A, cap', hxv, hnx, hcapx, hxs, hxsc, hxr⟩ := hX a w blk val hh
  -- what the row holds
  have howns : ∃ xs : List Value, w.ownsRow 0 e sz (val k) es.length xs ∧ ∀ (i : Nat) (x : List D) (j : Nat) (d : D), es[i]? = some x → x[j]? = some d → ∃ v, xs[i * sz + j]? = some v ∧ Rep w (okOf w0 blk) d v := by
    rcases a3 with ⟨_, he, hval⟩ | ⟨bk, vals, cap, hbk, hval, hn, hcap, hheap, hvs, hc⟩
    · subst he
      exact ⟨[], ⟨by simp, .inl ⟨hval, rfl⟩⟩, fun i x j d hi => by simp at hi⟩
    · have hle : es.length * sz ≤ cap * sz := Nat.mul_le_mul_right _ hn
      refine ⟨vals.toList.take (es.length * sz), ⟨by simp; omega, .inr ⟨bk, cap, vals, hval, Nat.zero_le _, hheap, hn, hcap, hvs, rfl⟩⟩, fun i x j d hi hj => ?_⟩
      obtain ⟨v, hv, hr⟩ := hc i x j d hi hj
      have hil := (List.getElem?_eq_some_iff.1 hi).1
      have hjl : j < sz := by have := (List.getElem?_eq_some_iff.1 hj).1; rw [a1 i x hi] at this; exact this
      exact ⟨v, by rw [List.getElem?_take, if_pos (mul_lt_of hil hjl)]; simpa using hv, hr⟩
  obtain ⟨xs, hown, hxsr⟩ := howns
  have hvb : (val k).ownBlock = blk k := by
    rcases a3 with ⟨h0, _, hval⟩ | ⟨bk, vals, cap, hbk, hval, _⟩
    · rw [hval, h0]; rfl
    · rw [hval, hbk]; rfl
  have finish : ∀ (v' : Value) (w' : World) (nv : List Value), (Builtin.append_ #[t, t] ty #[val k, a.eval x]).run P w = .ok v' w' → w'.ownsRow 0 e sz v' (es.length + news.length) (xs ++ nv) → w.grownBy w' (blk k) →
      (v'.ownBlock = (val k).ownBlock ∨ v'.ownBlock = some w.heap.size) → (∀ (i : Nat) (x : List D) (j : Nat) (d : D), news[i]? = some x → x[j]? = some d → ∃ v, nv[i * sz + j]? = some v ∧ Rep w (okOf w0 blk) d v) →
      Oper.wp P ⟨some d, .call ⟨.builtin .append, #[y, x], #[t, t]⟩, ty, pos, after, none⟩ a w (fun a' w' => ∃ st', st' = ((st.killS k).site k (.row e sz (es ++ news))).put (some d) (.rs k) ∧ Holds w0 st' a' w') (fun _ _ _ => False) := by
    intro v' w' nv hrun hown' hg hat hnv
    refine wp_value (v := v') (w' := w') (by
      have : (a.eval y) = val k := hv
      simp [execOp, resolve, invoke, builtin, this, hrun]) ⟨_, rfl, ?_⟩
    have hxl : xs.length = es.length * sz := hown.1
    have keep : ∀ {d : D} {v : Value}, Rep w (okOf w0 blk) d v → Rep w' (fun b => okOf w0 blk b ∧ v'.ownBlock ≠ some b ∧ b < w.heap.size) d v := fun h =>
      h.keep hg.size (fun b o h1 h2 => by rw [hg.block b (heap_lt h2) (fun e => h1.2 k e.symm)]; exact h2) fun b hb h => ⟨h, fun e => by
        rcases hat with e' | e'
        · rw [e', hvb] at e; exact h.2 k e
        · rw [e'] at e; cases e; omega, hb⟩
    have hsite : SiteIn w' (fun b => okOf w0 blk b ∧ v'.ownBlock ≠ some b ∧ b < w.heap.size) blk val st.s v'.ownBlock v' (.row e sz (es ++ news)) := by
      refine ⟨fun i x hx => ?_, fun i x j d hx hj => ?_, ?_⟩
      · rcases Nat.lt_or_ge i es.length with hlt | hge
        · rw [List.getElem?_append_left hlt] at hx; exact a1 i x hx
        · rw [List.getElem?_append_right hge] at hx; exact hxs _ x hx
      · rcases Nat.lt_or_ge i es.length with hlt | hge
        · rw [List.getElem?_append_left hlt] at hx; exact a2 i x j d hx hj
        · rw [List.getElem?_append_right hge] at hx; exact hxsc _ x j d hx hj
      · rcases hown'.2 with ⟨rfl, h0⟩ | ⟨g, cap, cur, rfl, hbg, hheap, hn, hcap, hcs, htake⟩
        · left
          have : (es ++ news).length = 0 := by rw [List.length_append]; exact h0
          exact ⟨rfl, List.length_eq_zero_iff.1 this, rfl⟩
        · right
          refine ⟨g, cur, cap, rfl, by rw [List.length_append], by rw [List.length_append]; exact hn, hcap, hheap, hcs, fun i x j d hi hj => ?_⟩
          have hxx : x.length = sz := by
            rcases Nat.lt_or_ge i es.length with hlt | hge
            · rw [List.getElem?_append_left hlt] at hi; exact a1 i x hi
            · rw [List.getElem?_append_right hge] at hi; exact hxs _ x hi
          have hjl : j < sz := by have := (List.getElem?_eq_some_iff.1 hj).1; omega
          have hil : i < es.length + news.length := by have := (List.getElem?_eq_some_iff.1 hi).1; rw [List.length_append] at this; exact this
          have hget : ∀ v, (xs ++ nv)[i * sz + j]? = some v → cur[i * sz + j]? = some v := fun v hv => by
            rw [← htake, List.getElem?_take, if_pos (mul_lt_of hil hjl)] at hv
            simpa using hv
          rcases Nat.lt_or_ge i es.length with hlt | hge
          · rw [List.getElem?_append_left hlt] at hi
            obtain ⟨v, hv, hr⟩ := hxsr i x j d hi hj
            have hq : i * sz + j < xs.length := by rw [hxl]; exact mul_lt_of hlt hjl
            exact ⟨v, hget v (by rw [List.getElem?_append_left hq]; exact hv), keep hr⟩
          · rw [List.getElem?_append_right hge] at hi
            obtain ⟨v, hv, hr⟩ := hnv _ x j d hi hj
            have hle : es.length * sz ≤ i * sz := Nat.mul_le_mul_right _ hge
            refine ⟨v, hget v ?_, keep hr⟩
            rw [List.getElem?_append_right (by omega), hxl, show i * sz + j - es.length * sz = (i - es.length) * sz + j by rw [Nat.sub_mul]; omega]
            exact hv
    have hH := hh.grow (k := k) (x := .row e sz (es ++ news)) (u := v') (nb := v'.ownBlock) hg (fun b hb => by
      rcases hown'.2 with ⟨rfl, _⟩ | ⟨g, cap, cur, rfl, hbg, hheap, _⟩
      · simp [Value.ownBlock] at hb
      · simp only [Value.ownBlock, Option.some.injEq] at hb
        subst hb
        refine ⟨?_, heap_lt hheap⟩
        rcases hat with e' | e'
        · rw [hvb] at e'; exact (hh.new k _ (e'.symm.trans rfl)).1
        · simp only [Value.ownBlock, Option.some.injEq] at e'
          rw [e']; exact .inl hh.ext.size) (fun b hb => by
      rcases hat with e' | e'
      · left; rw [← hvb, ← e']; exact hb
      · right; rw [e'] at hb; cases hb; exact Nat.le_refl _) hsite ⟨e, sz, _, rfl⟩ (by rw [hk]; rfl)
    exact ⟨_, _, put_hold hH (by simpa [Nat.blt_eq, St.site, St.killS] using hd) ⟨⟨e, sz, _, by simp [St.site]; rfl⟩, by simp⟩⟩
  rcases hxr with hnil | ⟨b', off, vs, hA, hb', hok', hc', hr'⟩
  · subst hnil
    cases A with
    | none =>
      simp only [List.length_nil] at hxv
      have hcap0 : cap' = 0 ∨ cap' ≠ 0 := by omega
      refine finish (val k) w [] ?_ (by simpa using hown) ⟨rfl, rfl, rfl, Nat.le_refl _, fun _ _ _ => rfl⟩ (.inl rfl) (fun i x j d hi => by simp at hi)
      rw [hxv]
      rcases hown.2 with ⟨hvk, h0⟩ | ⟨g, cap, cur, hvk, _, _, hnc, _⟩
      · rw [hvk]; simp [Builtin.append_, run_underlying (slB_under ht), sizeOf, my_typeInfo hi, Builtin.lenOf, Builtin.firstCells]
      · rw [hvk]; simp [Builtin.append_, run_underlying (slB_under ht), sizeOf, my_typeInfo hi, Builtin.lenOf, Builtin.firstCells, hnc, storeCells]
    | some ad =>
      obtain ⟨v', w', hrun, hown', hg, _, hat⟩ := run_append_own_at (P := P) w 0 t ty e i z sz b (slB_under ht) hi (zrB_info hz hi) hsi hbi hzs hs0 (val k) es.length xs hown ad 0 cap' [] (by simp) (fun j u hu => by simp at hu) (fun u hu => by cases hu) (by simp [maxLen] at hmax ⊢; omega) (by simpa using hbm) (Nat.zero_le _)
      simp only [List.length_nil] at hxv
      rw [← hxv] at hrun
      rw [hvb] at hg
      exact finish v' w' [] hrun (by simpa using hown') hg hat (fun i x j d hi => by simp at hi)
  · let nv : List Value := (List.range (news.length * sz)).map fun q => vs (q / sz) (q % sz)
    have hnvl : nv.length = news.length * sz := by simp [nv]
    have hnv : ∀ q u, nv[q]? = some u → ∃ x d, news[q / sz]? = some x ∧ x[q % sz]? = some d ∧ u = vs (q / sz) (q % sz) := fun q u hq => by
      have hql : q < news.length * sz := by have := (List.getElem?_eq_some_iff.1 hq).1; omega
      have hqd : q / sz < news.length := Nat.div_lt_of_lt_mul (by rw [Nat.mul_comm]; exact hql)
      have hx0 := List.getElem?_eq_getElem hqd
      have hqm : q % sz < (news[q / sz]).length := by rw [hxs _ _ hx0]; exact Nat.mod_lt _ hs0
      simp [nv, hql] at hq
      exact ⟨_, _, hx0, List.getElem?_eq_getElem hqm, hq.symm⟩
    obtain ⟨v', w', hrun, hown', hg, _, hat⟩ := run_append_own_at (P := P) w 0 t ty e i z sz b (slB_under ht) hi (zrB_info hz hi) hsi hbi hzs hs0 (val k) es.length xs hown ⟨b', off, none⟩ news.length cap' nv hnvl (fun q u hq => by
        obtain ⟨x, d, h1, h2, rfl⟩ := hnv q u hq
        have := hc' _ x _ d h1 h2
        rw [addr_add, show off + q = off + q / sz * sz + q % sz by have := Nat.div_add_mod q sz; rw [Nat.mul_comm] at this; omega]
        exact this) (fun u hu => by
        obtain ⟨q, hq⟩ := List.getElem?_of_mem hu
        obtain ⟨x, d, h1, h2, rfl⟩ := hnv q u hq
        exact (hr' _ x _ d h1 h2).one (hxsc _ x _ d h1 h2)) (by simp [maxLen]; omega) hbm (Nat.zero_le _)
    rw [← hA, ← hxv] at hrun
    rw [hvb] at hg
    refine finish v' w' nv hrun hown' hg hat fun i x j d hi hj => ?_
    have hil := (List.getElem?_eq_some_iff.1 hi).1
    have hjl : j < sz := by have := (List.getElem?_eq_some_iff.1 hj).1; rw [hxs i x hi] at this; exact this
    have hq : i * sz + j < news.length * sz := mul_lt_of hil hjl
    have e1 : (i * sz + j) / sz = i := by rw [Nat.add_comm, Nat.add_mul_div_right _ _ hs0, Nat.div_eq_of_lt hjl, Nat.zero_add]
    have e2 : (i * sz + j) % sz = j := by rw [Nat.add_comm, Nat.add_mul_mod_self_right, Nat.mod_eq_of_lt hjl]
    refine ⟨vs i j, ?_, hr' i x j d hi hj⟩
    simp [nv, hq, e1, e2]
theorem aops_append {d k : Nat} {t e sz b m : Nat} {z : Value} {y x : Operand} {es news es' : List (List D)} (ht : slB P t e sz = true) (hz : zrB P e z) (hb : byB P e b = true) (hzs : z.cells.size = sz) (hs0 : 0 < sz) (hy : st.ev y = .rs k) (hk : st.s k = .row e sz es) (hx : st.ev x = .d (.sl sz news))
    (hm : news.length = m) (hbm : (es.length + m) * b ≤ 140737488355328) (hmax : es.length + m ≤ 9223372036854775807) (hd : Nat.blt d st.n = true) (hes : es ++ news = es') (h : Aops P w0 ops rest R (((st.killS k).site k (.row e sz es')).put (some d) (.rs k))) :
    Aops P w0 ops (⟨some d, .call ⟨.builtin .append, #[y, x], #[t, t]⟩, ty, pos, after, none⟩ :: rest) R st :=
  aops_appendW ht hz hb hzs hs0 hy hk (fun a w blk val hh => by
    obtain ⟨A, cap, h1, h2, h3, h4, h5, h6⟩ := sl_inv (show Rep w _ (.sl sz news) (a.eval x) by have := hh.ev x; rw [hx] at this; exact this)
    exact ⟨A, cap, h1, h2, h3, h4, h5, h6.imp id fun ⟨b, off, vs, q1, q2, _, q4, q5⟩ => ⟨b, off, vs, q1, q2, trivial, q4, q5⟩⟩) hm hbm hmax hd hes h
theorem aops_appendR {d k q e2 : Nat} {t e sz b m : Nat} {z : Value} {y x : Operand} {es news es' : List (List D)} (ht : slB P t e sz = true) (hz : zrB P e z) (hb : byB P e b = true) (hzs : z.cells.size = sz) (hs0 : 0 < sz) (hy : st.ev y = .rs k) (hk : st.s k = .row e sz es) (hx : st.ev x = .rs q) (hq : st.s q = .row e2 sz news)
    (hm : news.length = m) (hbm : (es.length + m) * b ≤ 140737488355328) (hmax : es.length + m ≤ 9223372036854775807) (hd : Nat.blt d st.n = true) (hes : es ++ news = es') (h : Aops P w0 ops rest R (((st.killS k).site k (.row e sz es')).put (some d) (.rs k))) :
    Aops P w0 ops (⟨some d, .call ⟨.builtin .append, #[y, x], #[t, t]⟩, ty, pos, after, none⟩ :: rest) R st :=
  aops_appendW ht hz hb hzs hs0 hy hk (fun a w blk val hh => by
    have h1 := hh.ev x
    rw [hx] at h1
    obtain ⟨_, hv⟩ := h1
    have h2 := hh.site q
    rw [hq] at h2
    obtain ⟨a1, a2, a3⟩ := h2
    rcases a3 with ⟨_, he, hval⟩ | ⟨bk, vals, cap, hbk, hval, hn, hcap, hheap, hvs, hc⟩
    · subst he
      exact ⟨none, 0, by rw [hv, hval]; rfl, Nat.le_refl _, Nat.zero_le _, a1, a2, .inl rfl⟩
    · refine ⟨some ⟨bk, 0, none⟩, cap, by rw [hv, hval], hn, hcap, a1, a2, .inr ⟨bk, 0, fun i j => vals.getD (i * sz + j) undef, rfl, heap_lt hheap, trivial, fun i e j d hi hj => ?_, fun i e j d hi hj => ?_⟩⟩
      · obtain ⟨v, h1, h2⟩ := hc i e j d hi hj
        rw [cell_of_block hheap]
        simp [Array.getD_eq_getD_getElem?, h1]
      · obtain ⟨v, h1, h2⟩ := hc i e j d hi hj
        simp only [Array.getD_eq_getD_getElem?, h1]
        exact h2) hm hbm hmax hd hes h
end
end Go.Proofs.Ytgdcidbpadhkpaa.Am
