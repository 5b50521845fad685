/- The abstract machine, part 7: operations that make or change memory of the call's own, one after the other; a function's contract from its body. Conditions: none. -/
import Derived.Test.YtgdcidbpadhkpaaAm6
set_option linter.unusedVariables false
set_option linter.unusedSimpArgs false
namespace Go.Proofs.Ytgdcidbpadhkpaa.Am
open Go

section
variable {P : Program} {w0 : Cx} {ops : List Oper} {rest : List Oper} {R : Exit → St → Prop} {st : St} {ty : TypeId} {pos : String} {after : Array Edge}

theorem aops_nil (h : R .normal st) : Aops P w0 ops [] R st := fun _ _ hH => ⟨st, h, hH⟩
theorem aops_step {o : Oper} {K : St → Prop} (hg : o.guard = none) (h : ∀ a w, Holds w0 st a w → o.wp P a w (fun a' w' => ∃ st', K st' ∧ Holds w0 st' a' w') (fun _ _ _ => False)) (hK : ∀ st', K st' → Aops P w0 ops rest R st') : Aops P w0 ops (o :: rest) R st := by
  intro a w hH
  unfold wpList
  rw [if_pos (by simp [Region.wanted, hg])]
  exact .inl (Oper.wp_mono' (h a w hH) fun a' w' ⟨st', h1, h2⟩ => hK st' h1 a' w' h2)
theorem aops_q {dst : Option Tmp} {op : Op} {x : T} (hd : (match dst with | none => true | some d => Nat.blt d st.n) = true) (hq : QOp P w0 st.n st.s st.ev ⟨dst, op, ty, pos, after, none⟩ x) (h : Aops P w0 ops rest R (st.put dst x)) :
    Aops P w0 ops (⟨dst, op, ty, pos, after, none⟩ :: rest) R st :=
  aops_step (K := fun s => s = st.put dst x) rfl (fun a w hH => Oper.wp_mono' (hq st a w hH (Sub.refl _ _) rfl (fun _ => .inr rfl) (fun d hd' => by
    have : dst = some d := hd'
    subst this
    simpa [Nat.blt_eq] using hd)) fun a' w' h' => ⟨_, rfl, h'⟩) (fun _ e => e ▸ h)

theorem put_hold {a : Act} {w : World} {blk : Nat → Option Nat} {val : Nat → Value} {d : Nat} {x : T} {v : Value} (hh : Hold w0 st a w blk val) (hd : d < st.n) (hx : RepT w (okOf w0 blk) blk val st.s x v) : Hold w0 (st.put (some d) x) (a.put (some d) v) w blk val :=
  hh.put (some d) x v (fun _ e => by cases e; exact hd) hx

/-- A new site. -/
theorem Hold.newSite {a : Act} {w : World} {blk : Nat → Option Nat} {val : Nat → Value} {k b : Nat} {x : Site} {u : Value} (hh : Hold w0 st a w blk val) (hk : st.s k = .no) (hb : Ours w0 b) (hbw : b < w.heap.size) (hfresh : ∀ j, blk j ≠ some b)
    (hold : ∀ t, RepT w (fun b' => okOf w0 blk b' ∧ b' ≠ b) blk val st.s (st.t t) (a.tmps.getD t undef)) (hsites : ∀ j, SiteIn w (fun b' => okOf w0 blk b' ∧ b' ≠ b) blk val st.s (blk j) (val j) (st.s j))
    (hx : SiteIn w (fun b' => okOf w0 blk b' ∧ b' ≠ b) blk val st.s (some b) u x) (hxl : ∀ cs, x = .tbox cs → ∀ y ∈ cs, ∀ j, (y = .rs j ∨ ∃ o, y = .ref j o) → st.s j ≠ .no) : Hold w0 (st.site k x) a w (fun j => bif Nat.beq j k then some b else blk j) (fun j => bif Nat.beq j k then u else val j) := by
  have hok : ∀ b', b' < w.heap.size → okOf w0 blk b' ∧ b' ≠ b → okOf w0 (fun j => bif Nat.beq j k then some b else blk j) b' := fun b' _ ⟨h1, h2⟩ => ⟨h1.1, fun j hj => by
    cases hjk : Nat.beq j k <;> simp only [hjk, cond_true, cond_false] at hj
    · exact h1.2 j hj
    · cases hj; exact h2 rfl⟩
  have hne : ∀ j, st.s j ≠ .no → Nat.beq j k = false := fun j hj => by
    rw [← Bool.not_eq_true]; intro e; rw [Nat.eq_of_beq_eq_true e] at hj; exact hj hk
  have hrel : ∀ j, st.s j ≠ .no → (bif Nat.beq j k then some b else blk j) = blk j ∧ (bif Nat.beq j k then u else val j) = val j ∧ (st.s j ≠ .no → (st.site k x).s j ≠ .no) ∧ ((∃ e sz es, st.s j = .row e sz es) → ∃ e sz es, (st.site k x).s j = .row e sz es) := fun j hj => by
    simp only [St.site, hne j hj, cond_false]
    exact ⟨trivial, trivial, id, id⟩
  have live : ∀ y v, RepT w (fun b' => okOf w0 blk b' ∧ b' ≠ b) blk val st.s y v → ∀ j, (y = .rs j ∨ ∃ o, y = .ref j o) → st.s j ≠ .no := fun y v hy j hj => by
    rcases hj with rfl | ⟨o, rfl⟩
    · obtain ⟨⟨e, sz, es, q⟩, _⟩ := hy; rw [q]; simp
    · exact hy.1
  refine ⟨hh.ext, hh.defers, hh.size, fun j c hj => ?_, fun i j c hi hj => ?_, fun j c hj => ?_, fun j => ?_, fun t => ?_⟩
  · cases hjk : Nat.beq j k <;> simp only [hjk, cond_true, cond_false] at hj
    · exact hh.new j c hj
    · cases hj; exact ⟨hb, hbw⟩
  · cases hik : Nat.beq i k <;> cases hjk : Nat.beq j k <;> simp only [hik, hjk, cond_true, cond_false] at hi hj
    · exact hh.inj i j c hi hj
    · cases hj; exact absurd hi (hfresh i)
    · cases hi; exact absurd hj (hfresh j)
    · rw [Nat.eq_of_beq_eq_true hik, Nat.eq_of_beq_eq_true hjk]
  · obtain ⟨q1, q2, q3⟩ := hh.pin j c hj
    have : st.s j ≠ .no := fun e => by rw [e] at q2; cases q2
    simp only [St.site, hne j this, cond_false]
    exact ⟨q1, q2, q3⟩
  · cases hjk : Nat.beq j k
    · simp only [St.site, hjk, cond_false]
      refine (hsites j).to hok (.inl rfl) fun cs hcs y hy i hi => ?_
      have h0 := hsites j
      rw [hcs] at h0
      obtain ⟨_, _, _, _, _, _, h5⟩ := h0
      obtain ⟨q, hq⟩ := List.getElem?_of_mem hy
      obtain ⟨v, _, _, hr⟩ := h5 q y hq
      exact hrel i (live y v hr i hi)
    · simp only [St.site, hjk, cond_true]
      exact hx.to hok (.inl rfl) fun cs hcs y hy i hi => hrel i (hxl cs hcs y hy i hi)
  · exact (hold t).to hok fun j hj => hrel j (live _ _ (hold t) j hj)
theorem RepT.ok' {w : World} {ok ok' : Nat → Prop} {blk : Nat → Option Nat} {val : Nat → Value} {s : Nat → Site} {x : T} {v : Value} (h : RepT w ok blk val s x v) (hok : ∀ b, b < w.heap.size → ok b → ok' b) : RepT w ok' blk val s x v :=
  h.to hok fun _ _ => ⟨rfl, rfl, id, id⟩
theorem SiteIn.okw {w : World} {ok ok' : Nat → Prop} {blk : Nat → Option Nat} {val : Nat → Value} {s : Nat → Site} {b : Option Nat} {u : Value} {x : Site} (h : SiteIn w ok blk val s b u x) (hok : ∀ b, b < w.heap.size → ok b → ok' b) : SiteIn w ok' blk val s b u x :=
  h.to hok (.inl rfl) fun _ _ _ _ _ _ => ⟨rfl, rfl, id, id⟩
/-- A site made by an allocation. -/
theorem Hold.allocSite {a : Act} {w : World} {blk : Nat → Option Nat} {val : Nat → Value} {k : Nat} {x : Site} {u : Value} {o : Obj} (hh : Hold w0 st a w blk val) (hk : st.s k = .no)
    (hx : SiteIn (w.alloc o) (fun b => okOf w0 blk b ∧ b ≠ w.heap.size) blk val st.s (some w.heap.size) u x) (hxl : ∀ cs, x = .tbox cs → ∀ y ∈ cs, ∀ j, (y = .rs j ∨ ∃ o, y = .ref j o) → st.s j ≠ .no := by intro cs h; cases h) :
    Hold w0 (st.site k x) a (w.alloc o) (fun j => bif Nat.beq j k then some w.heap.size else blk j) (fun j => bif Nat.beq j k then u else val j) := by
  have hE : Ext w (w.alloc o) := (Ext.refl w).alloc o
  have h' := hh.ext' hE
  refine h'.newSite hk (.inl hh.ext.size) (by simp) (fun j hj => by have := (hh.new j _ hj).2; omega) (fun t => ?_) (fun j => ?_) hx hxl
  · exact ((hh.tmp t).ok' (ok' := fun b => okOf w0 blk b ∧ b ≠ w.heap.size) fun b hb h => ⟨h, by omega⟩).ext hE
  · exact ((hh.site j).okw (ok' := fun b => okOf w0 blk b ∧ b ≠ w.heap.size) fun b hb h => ⟨h, by omega⟩).ext hE

def constD (v : Value) : List D := v.cells.toList.map .v
def zrB (P : Program) (e : TypeId) (z : Value) : Prop := (P.info? e).bind (·.zero) = some z
theorem run_zero {e : TypeId} {z : Value} (h : zrB P e z) (w : World) : (zeroValue e).run P w = .ok z w := by
  unfold zrB at h
  cases hi : P.info? e with
  | none => simp [hi] at h
  | some i =>
    simp only [hi, Option.bind_some] at h
    simp [zeroValue, my_typeInfo hi, h]
theorem aops_alloc {d : Nat} {e : TypeId} {z : Value} (hz : zrB P e z) (h1 : z.cells.toList.all Value.oneCell' = true) (hd : Nat.blt d st.n = true) (hs : st.s d = .no) (h : Aops P w0 ops rest R ((st.site d (.box (constD z))).put (some d) (.ref d 0))) :
    Aops P w0 ops (⟨some d, .alloc e, ty, pos, after, none⟩ :: rest) R st := by
  refine aops_step (K := fun s => s = (st.site d (.box (constD z))).put (some d) (.ref d 0)) rfl (fun a w ⟨blk, val, hh⟩ => ?_) (fun _ e => e ▸ h)
  refine wp_value (v := .pointer (some ⟨w.heap.size, 0, none⟩)) (w' := w.alloc (.cells z.cells e)) (by simp [execOp, Instr.alloc, run_zero hz, newVar, newRow]) ⟨_, rfl, ?_⟩
  have hH := hh.allocSite (k := d) (x := .box (constD z)) (u := undef) (o := .cells z.cells e) hs ⟨w.heap.size, e, z.cells, rfl, new_block _ _, by simp [constD], fun j x hx => by
      simp only [constD, List.getElem?_map] at hx
      cases hj : z.cells.toList[j]? with
      | none => rw [hj] at hx; cases hx
      | some u => rw [hj] at hx; cases hx; rfl, fun j x hx => by
      simp only [constD, List.getElem?_map] at hx
      cases hj : z.cells.toList[j]? with
      | none => rw [hj] at hx; cases hx
      | some u =>
        rw [hj] at hx; cases hx
        exact ⟨u, by simpa using hj, .v u (List.all_eq_true.1 h1 u (List.mem_of_getElem? hj))⟩⟩
  exact ⟨_, _, put_hold hH (by simpa [Nat.blt_eq, St.site] using hd) ⟨by simp [St.site], w.heap.size, by simp, rfl⟩⟩

theorem setRow_block {w : World} {b b' : Nat} {cs : Array Value} (h : b' ≠ b) : (w.setRow b cs).heap[b']? = w.heap[b']? := by
  simp [World.setRow, Array.getElem?_modify, Ne.symm h]
theorem setRow_same {w : World} {b : Nat} {cs old : Array Value} {e : TypeId} {fr : Nat × Nat} (h : w.heap[b]? = some (.cells old e fr)) : (w.setRow b cs).heap[b]? = some (.cells cs e fr) := by
  simp [World.setRow, Array.getElem?_modify, h]
theorem setRow_size {w : World} {b : Nat} {cs : Array Value} : (w.setRow b cs).heap.size = w.heap.size := by simp [World.setRow]
/-- A site's contents change. -/
theorem Hold.setRow {a : Act} {w : World} {blk : Nat → Option Nat} {val : Nat → Value} {k b : Nat} {x : Site} {cs : Array Value} (hh : Hold w0 st a w blk val) (hb : blk k = some b)
    (hx : SiteIn (w.setRow b cs) (okOf w0 blk) blk val st.s (some b) (val k) x) (hrow : ∀ e sz es, st.s k = .row e sz es → ∃ e' sz' es', x = .row e' sz' es') (hno : x ≠ .no) (hvar : (st.s k).isVar = true → x.isVar = true := by intro _; rfl) : Hold w0 (st.site k x) a (w.setRow b cs) blk val := by
  have hbn := hh.new k b hb
  have keep : ∀ {d : D} {v : Value}, Rep w (okOf w0 blk) d v → Rep (w.setRow b cs) (okOf w0 blk) d v := fun h =>
    h.keep (by rw [setRow_size]; exact Nat.le_refl _) (fun b' o hok ho => by rw [setRow_block (fun e => hok.2 k (by rw [e]; exact hb))]; exact ho) fun _ _ h => h
  have keepT : ∀ {y : T} {v : Value}, RepT w (okOf w0 blk) blk val st.s y v → RepT (w.setRow b cs) (okOf w0 blk) blk val st.s y v := fun {y v} h => by
    cases y with
    | d y => exact keep h
    | _ => exact h
  have hrel : ∀ j, blk j = blk j ∧ val j = val j ∧ (st.s j ≠ .no → (st.site k x).s j ≠ .no) ∧ ((∃ e sz es, st.s j = .row e sz es) → ∃ e sz es, (st.site k x).s j = .row e sz es) := fun j => by
    refine ⟨rfl, rfl, ?_⟩
    simp only [St.site]
    cases hjk : Nat.beq j k
    · exact ⟨id, id⟩
    · rw [Nat.eq_of_beq_eq_true hjk]
      exact ⟨fun _ => hno, fun ⟨e, sz, es, q⟩ => hrow e sz es q⟩
  refine ⟨⟨hh.ext.os, hh.ext.tape, hh.ext.output, by rw [setRow_size]; exact hh.ext.size, fun j hj hm => by rw [setRow_block (fun e => by subst e; rcases hbn.1 with q | q; omega; exact hm q)]; exact hh.ext.block j hj hm⟩, hh.defers, hh.size, fun j c hj => by rw [setRow_size]; exact hh.new j c hj, hh.inj, fun j c hj => ?_, fun j => ?_, fun t => ?_⟩
  · obtain ⟨q1, q2, q3⟩ := hh.pin j c hj
    refine ⟨q1, ?_, q3⟩
    simp only [St.site]
    cases hjk : Nat.beq j k
    · exact q2
    · rw [Nat.eq_of_beq_eq_true hjk] at q2; exact hvar q2
  · have step : SiteIn (w.setRow b cs) (okOf w0 blk) blk val st.s (blk j) (val j) ((st.site k x).s j) := by
      cases hjk : Nat.beq j k
      · simp only [St.site, hjk, cond_false]
        have hs := hh.site j
        have hne : ∀ c, blk j = some c → c ≠ b := fun c hc e => by
          subst e
          have := hh.inj j k c hc hb
          subst this; simp at hjk
        cases hsj : st.s j with
        | no => rw [hsj] at hs; exact hs
        | box cs' =>
          rw [hsj] at hs
          obtain ⟨c, e, vals, h1, h2, h3, h4, h5⟩ := hs
          exact ⟨c, e, vals, h1, by rw [setRow_block (hne c h1)]; exact h2, h3, h4, fun j d hd => let ⟨v, hv, hr⟩ := h5 j d hd; ⟨v, hv, keep hr⟩⟩
        | tbox cs' =>
          rw [hsj] at hs
          obtain ⟨c, e, vals, h1, h2, h3, h5⟩ := hs
          exact ⟨c, e, vals, h1, by rw [setRow_block (hne c h1)]; exact h2, h3, fun j d hd => let ⟨v, hv, ho, hr⟩ := h5 j d hd; ⟨v, hv, ho, keepT hr⟩⟩
        | row e sz es =>
          rw [hsj] at hs
          obtain ⟨h1, h2, h3⟩ := hs
          exact ⟨h1, h2, h3.imp id fun ⟨c, vals, cap, k1, k2, k3, k4, k5, k6, k7⟩ => ⟨c, vals, cap, k1, k2, k3, k4, by rw [setRow_block (hne c k1)]; exact k5, k6, fun i x j d hi hj => let ⟨v, hv, hr⟩ := k7 i x j d hi hj; ⟨v, hv, keep hr⟩⟩⟩
      · simp only [St.site, hjk, cond_true]
        rw [Nat.eq_of_beq_eq_true hjk, hb]; exact hx
    exact step.to (fun _ _ h => h) (.inl rfl) fun _ _ _ _ j _ => hrel j
  · exact (keepT (hh.tmp t)).to (fun _ _ h => h) fun j _ => hrel j
end
end Go.Proofs.Ytgdcidbpadhkpaa.Am
