/- The abstract machine, part 18: variables that nothing changes any more; a literal that is boxed. Conditions: none. -/
import Derived.Test.YtgdcidbpadhkpaaAm17
import Derived.WalkSpells
set_option linter.unusedVariables false
set_option linter.unusedSimpArgs false
namespace Go.Proofs.Ytgdcidbpadhkpaa.Am
open Go

section
variable {P : Program} {w0 : Cx} {ops : List Oper} {rest : List Oper} {R : Exit → St → Prop} {st : St} {dst : Option Tmp} {ty : TypeId} {pos : String} {after : Array Edge}

theorem Hold.same {a : Act} {w : World} {blk : Nat → Option Nat} {val : Nat → Value} (t : Nat) (ht : t < st.n) (hh : Hold w0 st (a.put (some t) (a.tmps.getD t undef)) w blk val) : Hold w0 st a w blk val := by
  have : a.put (some t) (a.tmps.getD t undef) = a := by
    have hs : t < a.tmps.size := by have := hh.size; simp [Act.put] at this; omega
    cases a with
    | mk tmps defers =>
      simp only [Act.put, Act.mk.injEq, and_true]
      simp only at hs
      rw [Array.getD_eq_getD_getElem?, Array.getElem?_eq_getElem hs]
      refine Array.ext (by simp) fun i h1 h2 => ?_
      simp only [Option.getD_some, Array.getElem_setIfInBounds h2]
      split
      · rename_i e; subst e; rfl
      · rfl
  rw [this] at hh; exact hh
/-- A variable of the call's own becomes data. -/
theorem le_freeze (k t o : Nat) {cs : List D} (hs : st.s k = .box cs) (ht : st.t t = .ref k o) (hk : Nat.blt k st.n = true) (htn : Nat.blt t st.n = true) (hm : ∀ b, ¬ w0.mine b) : Le w0 st ((headSt st [k] [] []).put (some t) (.d (.pt cs o))) := by
  intro a w ⟨blk, val, hh⟩
  have hH : Hold w0 (headSt st [k] [] []) a w (headBlk [k] [] blk) val := hold_headW (ms := []) (Out.refl st) (by simp) (by simp) (by intro k h; cases h) (by intro p h; cases h) rfl (by simpa using hk) hh
  have h1 := hh.tmp t
  rw [ht] at h1
  obtain ⟨_, b, hb, hv⟩ := h1
  have h2 := hh.site k
  rw [hs] at h2
  obtain ⟨b', e, vals, hb', hheap, hsz, hsc, hc⟩ := h2
  rw [hb] at hb'; cases hb'
  have hok : ∀ c, okOf w0 blk c → okOf w0 (headBlk [k] [] blk) c := fun c ⟨q1, q2⟩ => ⟨q1, fun j hj => by
    simp only [headBlk, lookN] at hj
    cases hm : memN j [k] <;> rw [hm] at hj
    · exact q2 j hj
    · cases hj⟩
  have hokb : okOf w0 (headBlk [k] [] blk) b := by
    refine ⟨.inr ((hh.new k b hb).1.resolve_right (hm b)), fun j hj => ?_⟩
    simp only [headBlk, lookN] at hj
    cases hmj : memN j [k] <;> rw [hmj] at hj
    · have := hh.inj j k b hj hb
      subst this
      simp [memN] at hmj
    · cases hj
  rw [Nat.blt_eq] at htn
  refine ⟨_, _, Hold.same t htn (put_hold (v := a.tmps.getD t undef) hH htn ?_)⟩
  show Rep w _ (.pt cs o) _
  have := Rep.pt (w := w) (ok := okOf w0 (headBlk [k] [] blk)) cs o b 0 (fun j => vals.getD j undef) (heap_lt hheap) hokb hsc (fun j d hj => by
    obtain ⟨v, h1, h2⟩ := hc j d hj
    rw [cell_of_block hheap]
    simp [Array.getD_eq_getD_getElem?, h1]) (fun j d hj => by
    obtain ⟨v, h1, h2⟩ := hc j d hj
    simp only [Array.getD_eq_getD_getElem?, h1]
    exact h2.ok fun _ _ h => hok _ h)
  rw [hv]
  simpa using this

theorem Out.headIn {ts ts' ms : List Nat} {s s0 : St} {sl : List (Nat × T)} {ss : List (Nat × Site)} (hO : Out ts ms s s0) (h : ts'.all (fun t => memN t ts) = true) (h1 : keysIn ts sl = true) (h2 : keysIn (ts ++ ms) ss = true) : Out ts ms (headSt s ts' sl ss) s0 := by
  have hin : ∀ t, memN t ts' = true → memN t ts = true := fun t ht => memN_all ht h
  have hne : ∀ t, memN t ts = false → memN t ts' = false := fun t ht => by
    rw [← Bool.not_eq_true]; intro e; rw [hin t e] at ht; cases ht
  have hk : ∀ ks : List Nat, (∀ j, memN j ks = true → memN j ts = true) → ∀ j, memN j (ks ++ ts') = true → memN j ts = true := fun ks hks j hj => by
    rw [memN_app, Bool.or_eq_true] at hj
    rcases hj with hj | hj
    · exact hks j hj
    · exact hin j hj
  refine ⟨hO.n, fun t ht => ?_, fun t ht hm => ?_⟩
  · obtain ⟨ks, hks, e⟩ := hO.t t ht
    exact ⟨ks ++ ts', hk ks hks, by simp only [headSt, keysIn_none ht h1, hne t ht, cond_false]; rw [e, killT_app]⟩
  · obtain ⟨ks, hks, e⟩ := hO.s t ht hm
    have hn : memN t (ts ++ ms) = false := by rw [memN_app, ht, hm]; rfl
    exact ⟨ks ++ ts', hk ks hks, by simp only [headSt, keysIn_none hn h2, hne t ht, cond_false]; rw [e, killSite_app]⟩

/-- Cells that stand for temporaries. -/
structure CellsT (w : World) (ok : Nat → Prop) (blk : Nat → Option Nat) (val : Nat → Value) (s : Nat → Site) (cs : List T) (vs : List Value) : Prop where
  len : vs.length = cs.length
  at_ : ∀ (j : Nat) (x : T), cs[j]? = some x → ∃ v, vs[j]? = some v ∧ v.oneCell' = true ∧ RepT w ok blk val s x v
theorem CellsT.of {w : World} {ok : Nat → Prop} {blk : Nat → Option Nat} {val : Nat → Value} {s : Nat → Site} {cs : List D} {vs : List Value} (h : RepL w ok cs vs) (hs : scAll cs) : CellsT w ok blk val s (cs.map T.d) vs :=
  ⟨by rw [List.length_map]; exact h.length, fun j x hx => by
    rw [List.getElem?_map] at hx
    cases hj : cs[j]? with
    | none => rw [hj] at hx; cases hx
    | some d =>
      rw [hj] at hx; cases hx
      obtain ⟨v, hv, hr⟩ := h.at_ hj
      exact ⟨v, hv, hr.one (hs d (List.mem_of_getElem? hj)), hr⟩⟩
theorem CellsT.set {w : World} {ok : Nat → Prop} {blk : Nat → Option Nat} {val : Nat → Value} {s : Nat → Site} {cs xs : List T} {vs us : List Value} {o : Nat} (h : CellsT w ok blk val s cs vs) (h' : CellsT w ok blk val s xs us) (ho : o + xs.length ≤ cs.length) :
    CellsT w ok blk val s (setTs cs o xs) (vs.take o ++ us ++ vs.drop (o + us.length)) := by
  have h1 := h.len
  have h2 := h'.len
  refine ⟨by simp [setTs]; omega, fun j z hz => ?_⟩
  rcases splice_get (by omega) hz with ⟨q1, q⟩ | ⟨q1, q2, q⟩ | ⟨q1, q⟩
  · obtain ⟨v, hv, r⟩ := h.at_ j z q
    exact ⟨v, splice_put (by omega) (.inl ⟨q1, hv⟩), r⟩
  · obtain ⟨v, hv, r⟩ := h'.at_ _ z q
    exact ⟨v, splice_put (by omega) (.inr (.inl ⟨q1, by omega, hv⟩)), r⟩
  · obtain ⟨v, hv, r⟩ := h.at_ j z q
    exact ⟨v, splice_put (by omega) (.inr (.inr ⟨by omega, hv⟩)), r⟩
def fillT (pl : Nat → Option (Nat × Nat)) (cs : List T) : List (Nat × List T) → List T
  | [] => cs
  | (i, xs) :: ps => match pl i with
    | some (off, _) => fillT pl (setTs cs off xs) ps
    | none => []
def fillTOk (pl : Nat → Option (Nat × Nat)) (m : Nat) : List (Nat × List T) → Prop
  | [] => True
  | (i, xs) :: ps => (match pl i with | some (off, sz) => xs.length = sz ∧ off + sz ≤ m | none => False) ∧ fillTOk pl m ps
inductive PartsT (ev : Operand → T) : List (Nat × Operand) → List (Nat × List T) → Prop
  | nil : PartsT ev [] []
  | one {i : Nat} {y : Operand} {ys : List (Nat × Operand)} {x : T} {xs : List (Nat × List T)} (h : ev y = x) (hx : x.one = true) (hs : PartsT ev ys xs) : PartsT ev ((i, y) :: ys) ((i, [x]) :: xs)
  | agg {i : Nat} {y : Operand} {ys : List (Nat × Operand)} {cs : List D} {xs : List (Nat × List T)} (h : ev y = .d (.agg cs)) (hs : PartsT ev ys xs) : PartsT ev ((i, y) :: ys) ((i, cs.map T.d) :: xs)
theorem setTs_length {cs xs : List T} {o : Nat} (h : o + xs.length ≤ cs.length) : (setTs cs o xs).length = cs.length := by
  simp [setTs]; omega
theorem fill_repT {w : World} {blk : Nat → Option Nat} {val : Nat → Value} {a : Act} (hh : Hold w0 st a w blk val) {pl : Nat → Option (Nat × Nat)} : ∀ {ys : List (Nat × Operand)} {xs : List (Nat × List T)} {cs : List T} {cells : Array Value}, PartsT st.ev ys xs → CellsT w (okOf w0 blk) blk val st.s cs cells.toList → fillTOk pl cs.length xs →
    ∃ out, Instr.fill pl cells (ys.map fun (i, y) => (i, a.eval y)) = some out ∧ CellsT w (okOf w0 blk) blk val st.s (fillT pl cs xs) out.toList := by
  have step : ∀ {ys : List (Nat × Operand)} {xs : List (Nat × List T)} {cs : List T} {cells : Array Value} {i : Nat} {y : Operand} {z : List T}, CellsT w (okOf w0 blk) blk val st.s z (a.eval y).cells.toList → CellsT w (okOf w0 blk) blk val st.s cs cells.toList → fillTOk pl cs.length ((i, z) :: xs) →
      (∀ {cs : List T} {cells : Array Value}, CellsT w (okOf w0 blk) blk val st.s cs cells.toList → fillTOk pl cs.length xs → ∃ out, Instr.fill pl cells (ys.map fun (i, y) => (i, a.eval y)) = some out ∧ CellsT w (okOf w0 blk) blk val st.s (fillT pl cs xs) out.toList) →
      ∃ out, Instr.fill pl cells (((i, y) :: ys).map fun (i, y) => (i, a.eval y)) = some out ∧ CellsT w (okOf w0 blk) blk val st.s (fillT pl cs ((i, z) :: xs)) out.toList := by
    intro ys xs cs cells i y z hz hc hok ih
    obtain ⟨h1, h2⟩ := hok
    cases hp : pl i with
    | none => simp only [hp] at h1
    | some os =>
      obtain ⟨off, sz⟩ := os
      simp only [hp] at h1
      have hlen := hz.len
      have hcl := hc.len
      simp only [Array.length_toList] at hlen hcl
      have hsp := fold_splice off (a.eval y).cells.toList 0 cells (by simp; omega)
      simp only [Nat.add_zero, Array.length_toList] at hsp
      have hfold : ((a.eval y).cells.zipIdx.foldl (fun cs (x : Value × Nat) => cs.setIfInBounds (off + x.2) x.1) cells) = (((a.eval y).cells.toList.zipIdx 0).foldl (fun cs (x : Value × Nat) => cs.setIfInBounds (off + x.2) x.1) cells) := by
        rw [← Array.foldl_toList]; simp
      obtain ⟨out, k1, k2⟩ := ih (cs := setTs cs off z) (cells := ((a.eval y).cells.zipIdx.foldl (fun cs (x : Value × Nat) => cs.setIfInBounds (off + x.2) x.1) cells)) (by
        rw [hfold, hsp]
        have := hc.set hz (o := off) (by omega)
        simpa using this) (by rw [setTs_length (by omega)]; exact h2)
      refine ⟨out, ?_, by simpa [fillT, hp] using k2⟩
      simp only [List.map_cons, Instr.fill, hp]
      rw [if_neg (by simp; omega)]
      exact k1
  intro ys xs cs cells hp
  induction hp generalizing cs cells with
  | nil => exact fun hc _ => ⟨cells, rfl, hc⟩
  | one h hx hs ih =>
    rename_i i y ys x xs
    intro hc hok
    have hr : RepT w (okOf w0 blk) blk val st.s x (a.eval y) := h ▸ hh.ev y
    have h1 := hr.one hh.site hx
    refine step ⟨by rw [one_cells h1]; rfl, fun j u hu => ?_⟩ hc hok fun hc' hok' => ih hc' hok'
    rw [one_cells h1]
    cases j with
    | zero => simp at hu; subst hu; exact ⟨_, rfl, h1, hr⟩
    | succ j => simp at hu
  | agg h hs ih =>
    rename_i i y ys ds xs
    intro hc hok
    have hr : Rep w (okOf w0 blk) (.agg ds) (a.eval y) := by have := hh.ev y; rw [h] at this; exact this
    obtain ⟨hL, hsc⟩ := cells_inv hr (.inr ⟨_, rfl⟩)
    exact step (CellsT.of hL fun d hd => by obtain ⟨j, hj⟩ := List.getElem?_of_mem hd; exact hsc j d hj) hc hok fun hc' hok' => ih hc' hok'
theorem run_build {t : TypeId} {pl : List (Nat × Nat)} {z : Value} {parts : List (Nat × Operand)} {ev : Operand → Value} {out : Array Value} {w : World} (hp : plB P t pl = true) (hz : zrB P t z) (hf : Instr.fill (pl[·]?) z.cells (parts.map fun (i, y) => (i, ev y)) = some out) :
    (execOp ev ⟨dst, .build t parts.toArray, ty, pos, after, none⟩).run P w = .ok (.value (.agg out)) w := by
  unfold plB at hp
  cases hu : P.underlying t with
  | none => simp [hu] at hp
  | some d =>
    cases d <;> simp only [hu, Bool.false_eq_true] at hp
    rename_i fs
    simp only [Bool.and_eq_true, beq_iff_eq] at hp
    have hm : (fs.mapM fun f => (do pure (f.offset, ← sizeOf f.type) : Sem (Nat × Nat))).run P w = .ok pl.toArray w := by
      rw [← hp.1]
      have := run_places (P := P) w fs.toList hp.2
      have he : (fun f : Field => (do pure (f.offset, ← sizeOf f.type) : Sem (Nat × Nat))) = fun f => Functor.map (Prod.mk f.offset) (sizeOf f.type) := by funext f; rw [← bind_pure_comp]
      rw [he]
      conv => lhs; rw [← Array.toArray_toList (xs := fs)]
      rw [List.mapM_toArray]
      simp [this]
    have hpl : (fun i => (pl.toArray[i]? : Option (Nat × Nat))) = (fun i : Nat => pl[i]?) := by funext i; simp
    simp only [execOp, Instr.build, Sem.run_bind, run_zero hz, Result.andThen_ok, run_underlying hu, hm]
    have : (parts.toArray.map fun (x : Nat × Operand) => (x.1, ev x.2)).toList = parts.map fun (i, y) => (i, ev y) := by simp
    rw [this]
    simp only [hpl, hf]
    simp
/-- A literal whose cells may be slices of the call's own, boxed at once. -/
theorem aops_buildbox {d d1 : Nat} {t e : TypeId} {pl : List (Nat × Nat)} {z : Value} {parts : List (Nat × Operand)} {pds : List (Nat × List T)} {cs : List T} {ty' : TypeId} {pos' : String} {after' : Array Edge}
    (hp : plB P t pl = true) (hz : zrB P t z) (h1 : z.cells.toList.all Value.oneCell' = true) (hpd : PartsT st.ev parts pds) (hok : fillTOk (pl[·]?) (constD z).length pds) (hcs : fillT (pl[·]?) ((constD z).map T.d) pds = cs)
    (hd1 : Nat.blt d1 st.n = true) (hd : Nat.blt d st.n = true) (hs : st.s d = .no)
    (h : Aops P w0 ops rest R (((st.put (some d1) .dead).site d (.tbox cs)).put (some d) (.ref d 0))) :
    Aops P w0 ops (⟨some d1, .build t parts.toArray, ty, pos, after, none⟩ :: ⟨some d, .box e (.tmp d1), ty', pos', after', none⟩ :: rest) R st := by
  subst hcs
  intro a w ⟨blk, val, hh⟩
  rw [Nat.blt_eq] at hd1 hd
  obtain ⟨hz1, hz2⟩ := constD_rep (w := w) (ok := okOf w0 blk) h1
  obtain ⟨out, k1, k2⟩ := fill_repT hh (pl := (pl[·]?)) (cells := z.cells) hpd (CellsT.of hz1 hz2) (by rw [List.length_map]; exact hok)
  unfold wpList
  rw [if_pos (by simp [Region.wanted])]
  refine .inl (wp_value (v := .agg out) (w' := w) (run_build hp hz k1) ?_)
  unfold wpList
  rw [if_pos (by simp [Region.wanted])]
  have hs1 : d1 < a.tmps.size := by rw [hh.size]; exact hd1
  have hev : (a.put (some d1) (.agg out)).eval (.tmp d1) = .agg out := by simp [Act.eval, Act.put, hs1]
  have hE : Ext w (w.alloc (.cells out e)) := (Ext.refl w).alloc _
  refine .inl (wp_value (v := .pointer (some ⟨w.heap.size, 0, none⟩)) (w' := w.alloc (.cells out e)) (by simp [execOp, Instr.box, newVar, newRow, hev, Value.cells]) ?_)
  have hh1 : Hold w0 (st.put (some d1) .dead) (a.put (some d1) (.agg out)) w blk val := put_hold hh hd1 trivial
  have live : ∀ y ∈ fillT (pl[·]?) ((constD z).map T.d) pds, ∀ j, (y = .rs j ∨ ∃ o, y = .ref j o) → st.s j ≠ .no := fun y hy j hj => by
    obtain ⟨q, hq⟩ := List.getElem?_of_mem hy
    obtain ⟨v, _, _, hr⟩ := k2.at_ q y hq
    rcases hj with rfl | ⟨o, rfl⟩
    · obtain ⟨⟨e, sz, es, q⟩, _⟩ := hr; rw [q]; simp
    · exact hr.1
  have hH := hh1.allocSite (k := d) (x := .tbox (fillT (pl[·]?) ((constD z).map T.d) pds)) (u := undef) (o := .cells out e) hs ⟨w.heap.size, e, out, rfl, new_block _ _, by have := k2.len; simpa using this, fun j x hx => by
      obtain ⟨v, hv, ho, hr⟩ := k2.at_ j x hx
      exact ⟨v, by simpa using hv, ho, ((hr.ok' (ok' := fun b => okOf w0 blk b ∧ b ≠ w.heap.size) fun b hb h => ⟨h, by omega⟩).ext hE)⟩⟩
    (fun cs hcs y hy j hj => by cases hcs; exact live y hy j hj)
  exact h _ _ ⟨_, _, put_hold hH (by simpa [St.site, St.put] using hd) ⟨by simp [St.site], w.heap.size, by simp, rfl⟩⟩
end
section
variable {P : Program} {w0 : Cx} {n : Nat} {s : Nat → Site} {ev : Operand → T} {dst : Option Tmp} {ty : TypeId} {pos : String} {after : Array Edge} {g : Option (Nat × Bool)}
/-- A slice with elements is not nil. -/
theorem q_eqnil_rs {t t' e' : TypeId} {x : Operand} {k e sz : Nat} {es : List (List D)} (ht : slB P t e' sz = true) (hx : ev x = .rs k) (hk : s k = .row e sz es) (hne : 0 < es.length) : QOp P w0 n s ev ⟨dst, .binOp .eql t x (.const (.slice none 0 0)) t', ty, pos, after, g⟩ (T.bool false) :=
  .mk fun a w ok blk val h hs hnew => by
    have h1 := h x
    rw [hx] at h1
    obtain ⟨_, hv⟩ := h1
    have h2 := hs k
    rw [hk] at h2
    obtain ⟨_, _, h3⟩ := h2
    rcases h3 with ⟨_, he, _⟩ | ⟨b, vals, cap, _, hval, _⟩
    · subst he; simp at hne
    · rw [hval] at hv
      refine ⟨.bool false, w, ?_, Ext.refl w, .v _ rfl⟩
      have hc : a.eval (.const (.slice none 0 0)) = .slice none 0 0 := rfl
      have hr : (binOp .eql t (.slice (some ⟨b, 0, none⟩) es.length cap) (.slice none 0 0)).run P w = .ok (.bool false) w := by
        simp only [binOp]
        simp [Op.equal, Op.maxDepth, Lib.run_equalIn_slice_nil w 9999 t e' (some ⟨b, 0, none⟩) es.length cap 0 0 (slB_under ht)]
      simp [execOp, hv, hc, eqGuard, hr]
end
section
variable {P : Program} {w0 : Cx} {n : Nat} {s : Nat → Site} {ev : Operand → T} {dst : Option Tmp} {ty : TypeId} {pos : String} {after : Array Edge} {g : Option (Nat × Bool)}
theorem q_eqnil_sl {t t' e' sz : TypeId} {x : Operand} {es : List (List D)} (ht : slB P t e' sz = true) (hx : ev x = .d (.sl sz es)) (hne : 0 < es.length) : QOp P w0 n s ev ⟨dst, .binOp .eql t x (.const (.slice none 0 0)) t', ty, pos, after, g⟩ (T.bool false) :=
  .mk fun a w ok blk val h hs hnew => by
    obtain ⟨A, cap, hv, _, _, _, _, h6⟩ := sl_inv (show Rep w _ (.sl sz es) (a.eval x) by have := h x; rw [hx] at this; exact this)
    rcases h6 with rfl | ⟨b, off, vs, rfl, _⟩
    · simp at hne
    · refine ⟨.bool false, w, ?_, Ext.refl w, .v _ rfl⟩
      have hc : a.eval (.const (.slice none 0 0)) = .slice none 0 0 := rfl
      have hr : (binOp .eql t (.slice (some ⟨b, off, none⟩) es.length cap) (.slice none 0 0)).run P w = .ok (.bool false) w := by
        simp only [binOp]
        simp [Op.equal, Op.maxDepth, Lib.run_equalIn_slice_nil w 9999 t e' (some ⟨b, off, none⟩) es.length cap 0 0 (slB_under ht)]
      simp [execOp, hv, hc, eqGuard, hr]
theorem newS.none {st : St} : ∀ {ks : List Nat} {ss' : List Site}, (ks.all fun k => match st.s k with | .no => true | _ => false) = true → ks.length = ss'.length → ∀ i, i < ss'.length → st.s (nth ks i) = .no
  | [], [], _, _, i, h => by simp at h
  | k :: ks, _ :: ss', h, hl, i, hi => by
    simp only [List.all_cons, Bool.and_eq_true] at h
    cases i with
    | zero =>
      show st.s k = .no
      cases hk : st.s k <;> simp [hk] at h ⊢
    | succ i => exact newS.none h.2 (by simpa using hl) i (by simpa using hi)
  | [], _ :: _, _, hl, _, _ => by simp at hl
  | _ :: _, [], _, hl, _, _ => by simp at hl
theorem flat_row {α : Type} (C : α → List D) (e sz : Nat) (l : List α) (h : ∀ a, ∀ d ∈ C a, D.Flat d) : FlatS (.row e sz (l.map C)) := by
  intro x hx d hd
  obtain ⟨a, _, rfl⟩ := List.mem_map.1 hx
  exact h a d hd
theorem Out.called {ts ms : List Nat} {s s0 : St} {ks rows : List Nat} {ss' : List Site} (hO : Out ts ms s s0) (h1 : ks.all (fun k => memN k (ts ++ ms)) = true) (h2 : rows.all (fun k => memN k ts) = true) : Out ts ms (afterS s ks rows ss') s0 := by
  have hk : ∀ js : List Nat, (∀ j, memN j js = true → memN j ts = true) → ∀ j, memN j (js ++ rows) = true → memN j ts = true := fun js hjs j hj => by
    rw [memN_app, Bool.or_eq_true] at hj
    rcases hj with hj | hj
    · exact hjs j hj
    · exact memN_all (p := fun k => memN k ts) hj h2
  refine ⟨hO.n, fun t ht => ?_, fun t ht hm => ?_⟩
  · obtain ⟨js, hjs, e⟩ := hO.t t ht
    exact ⟨js ++ rows, hk js hjs, by simp only [afterS]; rw [e, killT_app]⟩
  · obtain ⟨js, hjs, e⟩ := hO.s t ht hm
    refine ⟨js ++ rows, hk js hjs, ?_⟩
    have hn : idxN t ks = none := by
      cases hq : idxN t ks with
      | none => rfl
      | some i =>
        exfalso
        have hmem : t ∈ ks := by
          obtain ⟨hi, hv⟩ := idxN_some hq
          clear h1 hq
          induction ks generalizing i with
          | nil => simp at hi
          | cons x xs ih =>
            cases i with
            | zero => exact List.mem_cons.2 (.inl hv.symm)
            | succ i => exact List.mem_cons_of_mem _ (ih i (by simpa using hi) hv)
        have := List.all_eq_true.1 h1 t hmem
        rw [memN_app, ht, hm] at this; cases this
    simp only [afterS, hn]; rw [e, killSite_app]
/-- A nil slice is a slice without elements. -/
inductive CUp : D → D → Prop
  | same (d : D) : CUp d d
  | nil (sz : Nat) : CUp (.v (.slice none 0 0)) (.sl sz [])
inductive CUpL : List D → List D → Prop
  | nil : CUpL [] []
  | cons {d d' : D} {ds ds' : List D} (h : CUp d d') (hs : CUpL ds ds') : CUpL (d :: ds) (d' :: ds')
inductive CUpLL : List (List D) → List (List D) → Prop
  | nil : CUpLL [] []
  | cons {d d' : List D} {ds ds' : List (List D)} (h : CUpL d d') (hs : CUpLL ds ds') : CUpLL (d :: ds) (d' :: ds')
theorem CUp.rep {w : World} {ok : Nat → Prop} {d d' : D} {v : Value} (h : CUp d d') (hr : Rep w ok d v) : Rep w ok d' v := by
  cases h with
  | same => exact hr
  | nil sz => rw [Rep.v_eq hr]; exact .emp _ _ _ (Nat.zero_le _)
theorem CUp.sc {d d' : D} (h : CUp d d') : d'.sc = d.sc := by cases h <;> rfl
theorem CUpL.at_ : ∀ {xs ys : List D}, CUpL xs ys → xs.length = ys.length ∧ ∀ (j : Nat) (d' : D), ys[j]? = some d' → ∃ d, xs[j]? = some d ∧ CUp d d'
  | _, _, .nil => ⟨rfl, fun j d' h => by simp at h⟩
  | _, _, .cons h hs => by
    obtain ⟨e, k⟩ := hs.at_
    refine ⟨by simp [e], fun j d' hj => ?_⟩
    cases j with
    | zero => simp at hj; subst hj; exact ⟨_, rfl, h⟩
    | succ j => exact k j d' (by simpa using hj)
theorem CUpLL.at_ : ∀ {xs ys : List (List D)}, CUpLL xs ys → xs.length = ys.length ∧ ∀ (j : Nat) (d' : List D), ys[j]? = some d' → ∃ d, xs[j]? = some d ∧ CUpL d d'
  | _, _, .nil => ⟨rfl, fun j d' h => by simp at h⟩
  | _, _, .cons h hs => by
    obtain ⟨e, k⟩ := hs.at_
    refine ⟨by simp [e], fun j d' hj => ?_⟩
    cases j with
    | zero => simp at hj; subst hj; exact ⟨_, rfl, h⟩
    | succ j => exact k j d' (by simpa using hj)
theorem Rep.up_sl {w : World} {ok : Nat → Prop} {sz : Nat} {es es' : List (List D)} {v : Value} (hr : Rep w ok (.sl sz es) v) (h : CUpLL es es') : Rep w ok (.sl sz es') v := by
  obtain ⟨el, ea⟩ := h.at_
  obtain ⟨A, cap, hv, h1, h2, h3, h4, h6⟩ := sl_inv hr
  rcases h6 with he | ⟨b, off, vs, rfl, hb, hok, hc, hr⟩
  · subst he
    have : es' = [] := List.length_eq_zero_iff.1 el.symm
    subst this
    rw [hv]; exact .emp _ _ _ h2
  · rw [hv, el]
    refine .sl sz es' b off cap vs hb hok (by omega) h2 (fun i e he => ?_) (fun i e j d he hd => ?_) (fun i e j d he hd => ?_) (fun i e j d he hd => ?_)
    · obtain ⟨x, hx, hu⟩ := ea i e he
      rw [← hu.at_.1]; exact h3 i x hx
    all_goals
      obtain ⟨x, hx, hu⟩ := ea i e he
      obtain ⟨c, hc', hcu⟩ := hu.at_.2 j d hd
    · rw [hcu.sc]; exact h4 i x j c hx hc'
    · exact hc i x j c hx hc'
    · exact hcu.rep (hr i x j c hx hc')
theorem PC.up {f : FuncId} {args : List D} {r r' : D} (h : PC P f args r) (hu : ∀ w ok v, Rep w ok r v → Rep w ok r' v) : PC P f args r' := fun w ok vs hL =>
  (h w ok vs hL).mono fun _ _ ⟨v, h1, h2, h3⟩ => ⟨v, h1, h2, hu _ _ _ h3⟩
end
end Go.Proofs.Ytgdcidbpadhkpaa.Am
