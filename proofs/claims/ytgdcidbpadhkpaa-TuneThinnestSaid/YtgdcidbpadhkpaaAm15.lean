/- The abstract machine, part 15: variables whose cells may be slices of the call's own; contracts of functions that are handed memory to change. Conditions: none. -/
import Derived.Test.YtgdcidbpadhkpaaAm14
set_option linter.unusedVariables false
set_option linter.unusedSimpArgs false
namespace Go.Proofs.Ytgdcidbpadhkpaa.Am
open Go

def T.one : T → Bool
  | .d x => D.sc x
  | .rs _ => true
  | .ref _ _ => true
  | _ => false
section
variable {P : Program} {w0 : Cx} {ops : List Oper} {rest : List Oper} {R : Exit → St → Prop} {st : St} {ty : TypeId} {pos : String} {after : Array Edge}

theorem RepT.one {w : World} {ok : Nat → Prop} {blk : Nat → Option Nat} {val : Nat → Value} {s : Nat → Site} {x : T} {v : Value} (h : RepT w ok blk val s x v) (hs : ∀ k, SiteIn w ok blk val s (blk k) (val k) (s k)) (h1 : x.one = true) : v.oneCell' = true := by
  cases x with
  | d d => exact Rep.one (h : Rep w ok d v) h1
  | ref k o => obtain ⟨_, b, _, rfl⟩ := h; rfl
  | rs k =>
    obtain ⟨⟨e, sz, es, q⟩, rfl⟩ := h
    have := hs k
    rw [q] at this
    obtain ⟨_, _, h3⟩ := this
    rcases h3 with ⟨_, _, hv⟩ | ⟨_, _, _, _, hv, _⟩ <;> rw [hv] <;> rfl
  | un => cases h1
  | dead => cases h1
theorem site_rel {k : Nat} {x : Site} (hno : x ≠ .no) (hrow : ∀ e sz es, st.s k = .row e sz es → ∃ e' sz' es', x = .row e' sz' es') (blk : Nat → Option Nat) (val : Nat → Value) (j : Nat) :
    blk j = blk j ∧ val j = val j ∧ (st.s j ≠ .no → (st.site k x).s j ≠ .no) ∧ ((∃ e sz es, st.s j = .row e sz es) → ∃ e sz es, (st.site k x).s j = .row e sz es) := by
  refine ⟨rfl, rfl, ?_⟩
  simp only [St.site]
  cases hjk : Nat.beq j k
  · exact ⟨id, id⟩
  · rw [Nat.eq_of_beq_eq_true hjk]
    exact ⟨fun _ => hno, fun ⟨e, sz, es, q⟩ => hrow e sz es q⟩
/-- A site told otherwise. -/
theorem Hold.retell {a : Act} {w : World} {blk : Nat → Option Nat} {val : Nat → Value} {k : Nat} {x : Site} (hh : Hold w0 st a w blk val) (hx : SiteIn w (okOf w0 blk) blk val st.s (blk k) (val k) x) (hno : x ≠ .no) (hrow : ∀ e sz es, st.s k = .row e sz es → ∃ e' sz' es', x = .row e' sz' es') (hvar : (st.s k).isVar = true → x.isVar = true := by intro _; rfl) : Hold w0 (st.site k x) a w blk val := by
  have hrel := site_rel (st := st) (k := k) hno hrow blk val
  refine ⟨hh.ext, hh.defers, hh.size, hh.new, hh.inj, fun j b hj => ?_, fun j => ?_, fun t => (hh.tmp t).to (fun _ _ h => h) fun j _ => hrel j⟩
  · obtain ⟨q1, q2, q3⟩ := hh.pin j b hj
    refine ⟨q1, ?_, q3⟩
    simp only [St.site]
    cases hjk : Nat.beq j k
    · exact q2
    · rw [Nat.eq_of_beq_eq_true hjk] at q2; exact hvar q2
  have step : SiteIn w (okOf w0 blk) blk val st.s (blk j) (val j) ((st.site k x).s j) := by
    cases hjk : Nat.beq j k
    · simp only [St.site, hjk, cond_false]; exact hh.site j
    · simp only [St.site, hjk, cond_true]
      rw [Nat.eq_of_beq_eq_true hjk]; exact hx
  exact step.to (fun _ _ h => h) (.inl rfl) fun _ _ _ _ j _ => hrel j
theorem le_tbox {k : Nat} {cs : List D} {ts : List T} (hs : st.s k = .box cs) (hts : cs.map T.d = ts) : Le w0 st (st.site k (.tbox ts)) := by
  subst hts
  intro a w ⟨blk, val, hh⟩
  refine ⟨blk, val, hh.retell ?_ (by simp) (fun e sz es q => by rw [hs] at q; cases q)⟩
  have h := hh.site k
  rw [hs] at h
  obtain ⟨b, e, vals, h1, h2, h3, h4, h5⟩ := h
  refine ⟨b, e, vals, h1, h2, by simpa using h3, fun j x hx => ?_⟩
  rw [List.getElem?_map] at hx
  cases hj : cs[j]? with
  | none => rw [hj] at hx; cases hx
  | some d =>
    rw [hj] at hx; cases hx
    obtain ⟨v, hv, hr⟩ := h5 j d hj
    exact ⟨v, hv, hr.one (h4 j d hj), hr⟩
def setTs (cs : List T) (o : Nat) (xs : List T) : List T := cs.take o ++ xs ++ cs.drop (o + xs.length)
/-- A store into a variable whose cells may be slices of the call's own. -/
theorem aops_storeW {t : TypeId} {y x : Operand} {agg : Bool} {m k o : Nat} {cs ts cs' : List T} (ht : szB P t agg m = true) (hy : st.ev y = .ref k o) (hk : st.s k = .tbox cs) (ho : o + m ≤ cs.length) (hcs : setTs cs o ts = cs') (htl : ts.length = m)
    (hv : ∀ (a : Act) (w : World) (blk : Nat → Option Nat) (val : Nat → Value), Hold w0 st a w blk val → ∃ us : List Value, (a.eval x).cells.toList = us ∧ us.length = m ∧ ∀ (j : Nat) (z : T), ts[j]? = some z → ∃ v, us[j]? = some v ∧ v.oneCell' = true ∧ RepT w (okOf w0 blk) blk val st.s z v)
    (h : Aops P w0 ops rest R (st.site k (.tbox cs'))) : Aops P w0 ops (⟨none, .store t y x, ty, pos, after, none⟩ :: rest) R st := by
  subst hcs
  refine aops_step (K := fun s => s = st.site k (.tbox (setTs cs o ts))) rfl (fun a w ⟨blk, val, hh⟩ => ?_) (fun _ e => e ▸ h)
  have h1 := hh.ev y
  rw [hy] at h1
  obtain ⟨_, b, hb, hva⟩ := h1
  obtain ⟨us, hus, hul, hur⟩ := hv a w blk val hh
  have hsite := hh.site k
  rw [hk] at hsite
  obtain ⟨b', e, vals, hb', hheap, hsz, hc⟩ := hsite
  rw [hb] at hb'; cases hb'
  have hone : ∀ u ∈ (a.eval x).cells.toList, u.oneCell' = true := fun u hu => by
    rw [hus] at hu
    obtain ⟨j, hj⟩ := List.getElem?_of_mem hu
    have hjl : j < ts.length := by have := (List.getElem?_eq_some_iff.1 hj).1; omega
    obtain ⟨v, hv, ho, _⟩ := hur j _ (List.getElem?_eq_getElem hjl)
    rw [hj] at hv; cases hv; exact ho
  have hcl : (a.eval x).cells.size = m := by rw [← hul, ← hus, Array.length_toList]
  have hrun := run_storeAt (P := P) (o := o) ht hcl hheap (by omega) hone
  unfold Oper.wp
  rw [show (execOp a.eval ⟨none, .store t y x, ty, pos, after, none⟩).run P w = .ok .skip (w.setRow b (vals.toList.take o ++ (a.eval x).cells.toList ++ vals.toList.drop (o + m)).toArray) by simp [execOp, hva, hrun]]
  refine ⟨_, rfl, blk, val, hh.setRow hb ?_ (fun e sz es he => by rw [hk] at he; cases he) (by simp)⟩
  have keep : ∀ {d : D} {v : Value}, Rep w (okOf w0 blk) d v → Rep (w.setRow b (vals.toList.take o ++ (a.eval x).cells.toList ++ vals.toList.drop (o + m)).toArray) (okOf w0 blk) d v := fun h =>
    h.keep (by rw [setRow_size]; exact Nat.le_refl _) (fun b' o hok ho => by rw [setRow_block (fun e => hok.2 k (by rw [e]; exact hb))]; exact ho) fun _ _ h => h
  have keepT : ∀ {z : T} {v : Value}, RepT w (okOf w0 blk) blk val st.s z v → RepT (w.setRow b (vals.toList.take o ++ (a.eval x).cells.toList ++ vals.toList.drop (o + m)).toArray) (okOf w0 blk) blk val st.s z v := fun {z v} h => by
    cases z with
    | d z => exact keep h
    | _ => exact h
  have hvl : vals.toList.length = cs.length := by simpa using hsz
  have hm' : m = (a.eval x).cells.toList.length := by rw [hus]; omega
  refine ⟨b, e, _, rfl, setRow_same hheap, ?_, ?_⟩
  · simp [setTs]; omega
  · intro j z hz
    rcases splice_get (by omega) hz with ⟨h1, h⟩ | ⟨h1, h2, h⟩ | ⟨h1, h⟩
    · obtain ⟨v, hv, ho', hr⟩ := hc j z h
      refine ⟨v, ?_, ho', keepT hr⟩
      rw [hm', List.getElem?_toArray]
      exact splice_put (by omega) (.inl ⟨h1, by simpa using hv⟩)
    · obtain ⟨v, hv, ho', hr⟩ := hur _ z h
      refine ⟨v, ?_, ho', keepT hr⟩
      rw [hm', List.getElem?_toArray]
      exact splice_put (by omega) (.inr (.inl ⟨h1, by omega, by rw [hus]; exact hv⟩))
    · obtain ⟨v, hv, ho', hr⟩ := hc j z h
      refine ⟨v, ?_, ho', keepT hr⟩
      rw [hm', List.getElem?_toArray]
      exact splice_put (by omega) (.inr (.inr ⟨by omega, by simpa using hv⟩))
theorem one_cells {v : Value} (h : v.oneCell' = true) : v.cells.toList = [v] := by cases v <;> first | rfl | cases h
theorem aops_storeT {t : TypeId} {y x : Operand} {k o : Nat} {cs cs' : List T} {z : T} (ht : szB P t false 1 = true) (hy : st.ev y = .ref k o) (hx : st.ev x = z) (hz : z.one = true) (hk : st.s k = .tbox cs) (ho : o + 1 ≤ cs.length) (hcs : setTs cs o [z] = cs')
    (h : Aops P w0 ops rest R (st.site k (.tbox cs'))) : Aops P w0 ops (⟨none, .store t y x, ty, pos, after, none⟩ :: rest) R st :=
  aops_storeW ht hy hk ho hcs rfl (fun a w blk val hh => by
    have hr : RepT w (okOf w0 blk) blk val st.s z (a.eval x) := hx ▸ hh.ev x
    have h1 := hr.one hh.site hz
    refine ⟨[a.eval x], one_cells h1, rfl, fun j u hu => ?_⟩
    cases j with
    | zero => simp at hu; subst hu; exact ⟨_, rfl, h1, hr⟩
    | succ j => simp at hu) h
theorem aops_storeTA {t : TypeId} {y x : Operand} {agg : Bool} {m k o : Nat} {cs cs' : List T} {X : D} (ht : szB P t agg m = true) (hy : st.ev y = .ref k o) (hx : st.ev x = .d X) (hX : X.sc = true ∨ ∃ cs, X = .agg cs) (hm : X.cells.length = m) (hk : st.s k = .tbox cs) (ho : o + m ≤ cs.length) (hcs : setTs cs o (X.cells.map T.d) = cs')
    (h : Aops P w0 ops rest R (st.site k (.tbox cs'))) : Aops P w0 ops (⟨none, .store t y x, ty, pos, after, none⟩ :: rest) R st :=
  aops_storeW ht hy hk ho hcs (by simpa using hm) (fun a w blk val hh => by
    have hr : Rep w (okOf w0 blk) X (a.eval x) := by have := hh.ev x; rw [hx] at this; exact this
    obtain ⟨hL, hs⟩ := cells_inv hr hX
    refine ⟨_, rfl, by rw [hL.length]; exact hm, fun j u hu => ?_⟩
    rw [List.getElem?_map] at hu
    cases hj : X.cells[j]? with
    | none => rw [hj] at hu; cases hu
    | some d =>
      rw [hj] at hu; cases hu
      obtain ⟨v, hv, hr⟩ := hL.at_ hj
      exact ⟨v, hv, hr.one (hs j d hj), hr⟩) h
end
section
variable {P : Program} {w0 : Cx} {n : Nat} {s : Nat → Site} {ev : Operand → T} {dst : Option Tmp} {ty : TypeId} {pos : String} {after : Array Edge} {g : Option (Nat × Bool)}
theorem q_load_tb {t : TypeId} {y : Operand} {m q o : Nat} {cs : List T} {x : T} (ht : szB P t false m = true) (hy : ev y = .ref q o) (hq : s q = .tbox cs) (hd : cs[o]? = some x) : QOp P w0 n s ev ⟨dst, .load t y, ty, pos, after, g⟩ x :=
  .mk fun a w ok blk val h hs hnew => by
    have h1 := h y
    rw [hy] at h1
    obtain ⟨_, b, hb, hv⟩ := h1
    have h2 := hs q
    rw [hq] at h2
    obtain ⟨b', e, vals, hb', hheap, hsz, hc⟩ := h2
    rw [hb] at hb'; cases hb'
    obtain ⟨v, hv0, _, hr⟩ := hc o x hd
    refine ⟨v, w, ?_, Ext.refl w, hr⟩
    have hcell : w.cell? ⟨b, o, none⟩ = some v := by rw [cell_of_block hheap]; exact hv0
    simp [execOp, hv, Instr.loadAt, Instr.sureAddr, loadVar, szB_agg ht, hcell]
end
end Go.Proofs.Ytgdcidbpadhkpaa.Am
