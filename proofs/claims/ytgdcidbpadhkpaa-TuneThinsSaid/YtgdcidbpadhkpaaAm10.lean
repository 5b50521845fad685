/- The abstract machine, part 10: aggregates and slices built; lengths; indices; loads out of sites. Conditions: none. -/
import Derived.Test.YtgdcidbpadhkpaaAm9
set_option linter.unusedVariables false
set_option linter.unusedSimpArgs false
namespace Go.Proofs.Ytgdcidbpadhkpaa.Am
open Go

theorem RepL.take {w : World} {ok : Nat → Prop} : ∀ (m : Nat) {ds : List D} {vs : List Value}, RepL w ok ds vs → RepL w ok (ds.take m) (vs.take m)
  | 0, _, _, _ => by simp [RepL]
  | m + 1, [], [], _ => by simp [RepL]
  | m + 1, _ :: _, _ :: _, h => ⟨h.1, RepL.take m h.2⟩
  | _ + 1, [], _ :: _, h => h.elim
  | _ + 1, _ :: _, [], h => h.elim
theorem RepL.drop {w : World} {ok : Nat → Prop} : ∀ (m : Nat) {ds : List D} {vs : List Value}, RepL w ok ds vs → RepL w ok (ds.drop m) (vs.drop m)
  | 0, _, _, h => h
  | m + 1, [], [], _ => by simp [RepL]
  | m + 1, _ :: _, _ :: _, h => RepL.drop m h.2
  | _ + 1, [], _ :: _, h => h.elim
  | _ + 1, _ :: _, [], h => h.elim
theorem RepL.setCs {w : World} {ok : Nat → Prop} {cs xs : List D} {vs us : List Value} {o : Nat} (h : RepL w ok cs vs) (k : RepL w ok xs us) : RepL w ok (setCs cs o xs) (vs.take o ++ us ++ vs.drop (o + us.length)) := by
  unfold Go.Proofs.Ytgdcidbpadhkpaa.Am.setCs
  rw [k.length]
  exact ((h.take o).append k).append (h.drop _)
def scAll (cs : List D) : Prop := ∀ d ∈ cs, d.sc = true
theorem scAll.setCs {cs xs : List D} {o : Nat} (h : scAll cs) (k : scAll xs) : scAll (setCs cs o xs) := by
  intro d hd
  unfold Go.Proofs.Ytgdcidbpadhkpaa.Am.setCs at hd
  rcases List.mem_append.1 hd with hd | hd
  · rcases List.mem_append.1 hd with hd | hd
    · exact h d (List.mem_of_mem_take hd)
    · exact k d hd
  · exact h d (List.mem_of_mem_drop hd)
theorem fold_splice (off : Nat) : ∀ (vs : List Value) (k : Nat) (cells : Array Value), off + k + vs.length ≤ cells.size →
    ((vs.zipIdx k).foldl (fun cs (x : Value × Nat) => cs.setIfInBounds (off + x.2) x.1) cells).toList = cells.toList.take (off + k) ++ vs ++ cells.toList.drop (off + k + vs.length)
  | [], k, cells, _ => by simp
  | v :: vs, k, cells, h => by
    simp only [List.length_cons] at h
    rw [List.zipIdx_cons, List.foldl_cons, fold_splice off vs (k + 1) _ (by simp; omega)]
    have hk : off + k < cells.toList.length := by simp; omega
    simp only [Array.toList_setIfInBounds]
    rw [show off + (k + 1) = off + k + 1 by omega, List.take_add_one]
    simp only [List.length_cons, List.getElem?_set_self hk, Option.toList_some]
    rw [List.take_set_of_le (Nat.le_refl _), List.drop_set_of_lt (by omega), show off + k + 1 + vs.length = off + k + (vs.length + 1) by omega]
    simp
/-- Parts laid into cells. -/
def fillD (pl : Nat → Option (Nat × Nat)) (cs : List D) : List (Nat × D) → List D
  | [] => cs
  | (i, d) :: ps => match pl i with
    | some (off, _) => fillD pl (setCs cs off d.cells) ps
    | none => []
def fillOk (pl : Nat → Option (Nat × Nat)) (m : Nat) : List (Nat × D) → Prop
  | [] => True
  | (i, d) :: ps => (match pl i with | some (off, sz) => d.cells.length = sz ∧ off + sz ≤ m | none => False) ∧ fillOk pl m ps
inductive PartsD (ev : Operand → T) : List (Nat × Operand) → List (Nat × D) → Prop
  | nil : PartsD ev [] []
  | cons {i : Nat} {y : Operand} {ys : List (Nat × Operand)} {x : D} {xs : List (Nat × D)} (h : ev y = .d x) (hx : x.sc = true ∨ ∃ cs, x = .agg cs) (hs : PartsD ev ys xs) : PartsD ev ((i, y) :: ys) ((i, x) :: xs)
theorem setCs_length {cs xs : List D} {o : Nat} (h : o + xs.length ≤ cs.length) : (setCs cs o xs).length = cs.length := by
  simp [setCs]; omega
section
variable {P : Program} {w0 : Cx} {n : Nat} {s : Nat → Site} {ev : Operand → T} {dst : Option Tmp} {ty : TypeId} {pos : String} {after : Array Edge} {g : Option (Nat × Bool)}

theorem fill_rep {w : World} {ok : Nat → Prop} {blk : Nat → Option Nat} {val : Nat → Value} {a : Act} (hy : ∀ y, RepT w ok blk val s (ev y) (a.eval y)) {pl : Nat → Option (Nat × Nat)} : ∀ {ys : List (Nat × Operand)} {xs : List (Nat × D)} {cs : List D} {cells : Array Value}, PartsD ev ys xs → RepL w ok cs cells.toList → scAll cs → fillOk pl cs.length xs →
    ∃ out, Instr.fill pl cells (ys.map fun (i, y) => (i, a.eval y)) = some out ∧ RepL w ok (fillD pl cs xs) out.toList ∧ scAll (fillD pl cs xs)
  | _, _, cs, cells, .nil, hL, hS, _ => ⟨cells, rfl, hL, hS⟩
  | _, _, cs, cells, .cons (i := i) (y := y) (x := x) h hx hs, hL, hS, hok => by
    obtain ⟨h1, h2⟩ := hok
    cases hp : pl i with
    | none => simp only [hp] at h1
    | some os =>
      obtain ⟨off, sz⟩ := os
      simp only [hp] at h1
      have hr : Rep w ok x (a.eval y) := by have := hy y; rw [h] at this; exact this
      obtain ⟨hc, hcs⟩ := cells_inv hr hx
      have hlen := hc.length
      have hcl := hL.length
      simp only [Array.length_toList] at hlen hcl
      have hsp := fold_splice off (a.eval y).cells.toList 0 cells (by simp; omega)
      simp only [Nat.add_zero, Array.length_toList] at hsp
      have hfold : ((a.eval y).cells.zipIdx.foldl (fun cs (x : Value × Nat) => cs.setIfInBounds (off + x.2) x.1) cells) = (((a.eval y).cells.toList.zipIdx 0).foldl (fun cs (x : Value × Nat) => cs.setIfInBounds (off + x.2) x.1) cells) := by
        rw [← Array.foldl_toList]; simp
      obtain ⟨out, k1, k2, k3⟩ := fill_rep hy (pl := pl) (cs := setCs cs off x.cells) (cells := ((a.eval y).cells.zipIdx.foldl (fun cs (x : Value × Nat) => cs.setIfInBounds (off + x.2) x.1) cells)) hs (by
        rw [hfold, hsp]
        have := hL.setCs (o := off) hc
        simpa using this) (hS.setCs fun d hd => by
          obtain ⟨j, hj⟩ := List.getElem?_of_mem hd
          exact hcs j d hj) (by rw [setCs_length (by omega)]; exact h2)
      refine ⟨out, ?_, by simpa [fillD, hp] using k2, by simpa [fillD, hp] using k3⟩
      simp only [List.map_cons, Instr.fill, hp]
      rw [if_neg (by simp; omega)]
      exact k1

def plB (P : Program) (t : TypeId) (pl : List (Nat × Nat)) : Bool :=
  match P.underlying t with
  | some (.struct fs) => (fs.toList.map fun f => (f.offset, P.cellsOf f.type)) == pl && fs.toList.all fun f => (P.info? f.type).isSome
  | _ => false
theorem run_cellsOf {t : TypeId} (h : (P.info? t).isSome = true) (w : World) : (sizeOf t).run P w = .ok (P.cellsOf t) w := by
  cases hi : P.info? t with
  | none => simp [hi] at h
  | some i => simp [sizeOf, my_typeInfo hi, Program.cellsOf, hi]
theorem run_places (w : World) : ∀ (fs : List Field), (fs.all fun f => (P.info? f.type).isSome) = true → (fs.mapM fun f => Functor.map (Prod.mk f.offset) (sizeOf f.type)).run P w = .ok (fs.map fun f => (f.offset, P.cellsOf f.type)) w
  | [], _ => rfl
  | f :: fs, h => by
    simp only [List.all_cons, Bool.and_eq_true] at h
    rw [List.mapM_cons]
    simp [run_cellsOf h.1, run_places w fs h.2]
theorem constD_rep {w : World} {ok : Nat → Prop} {z : Value} (h : z.cells.toList.all Value.oneCell' = true) : RepL w ok (constD z) z.cells.toList ∧ scAll (constD z) := by
  unfold constD
  generalize z.cells.toList = vs at *
  refine ⟨?_, fun d hd => ?_⟩
  · induction vs with
    | nil => trivial
    | cons v vs ih =>
      simp only [List.all_cons, Bool.and_eq_true] at h
      exact ⟨.v v h.1, ih h.2⟩
  · obtain ⟨v, _, rfl⟩ := List.mem_map.1 hd; rfl
theorem q_build {t : TypeId} {pl : List (Nat × Nat)} {z : Value} {parts : List (Nat × Operand)} {pds : List (Nat × D)} {cs : List D} (hp : plB P t pl = true) (hz : zrB P t z) (h1 : z.cells.toList.all Value.oneCell' = true)
    (hpd : PartsD ev parts pds) (hok : fillOk (pl[·]?) (constD z).length pds) (hcs : fillD (pl[·]?) (constD z) pds = cs) : QOp P w0 n s ev ⟨dst, .build t parts.toArray, ty, pos, after, g⟩ (.d (.agg cs)) :=
  .mk fun a w ok blk val h _ hnew => by
    subst hcs
    obtain ⟨hz1, hz2⟩ := constD_rep (w := w) (ok := ok) h1
    obtain ⟨out, k1, k2, k3⟩ := fill_rep h (pl := (pl[·]?)) (cells := z.cells) hpd hz1 hz2 hok
    refine ⟨.agg out, w, ?_, Ext.refl w, ?_⟩
    · unfold plB at hp
      cases hu : P.underlying t with
      | none => simp [hu] at hp
      | some d =>
        cases d <;> simp only [hu, Bool.false_eq_true] at hp
        rename_i fs
        simp only [Bool.and_eq_true, beq_iff_eq] at hp
        have hm : (fs.mapM fun f => (do pure (f.offset, ← sizeOf f.type) : Sem (Nat × Nat))).run P w = .ok pl.toArray w := by
          rw [← hp.1]
          have := run_places (P := P) w fs.toList hp.2
          have he : (fun f : Field => (do pure (f.offset, ← sizeOf f.type) : Sem (Nat × Nat))) = fun f => Functor.map (Prod.mk f.offset) (sizeOf f.type) := by funext f; rw [← bind_pure_comp]
          rw [he]
          conv => lhs; rw [← Array.toArray_toList (xs := fs)]
          rw [List.mapM_toArray]
          simp [this]
        have hpl : (fun i => (pl.toArray[i]? : Option (Nat × Nat))) = (fun i : Nat => pl[i]?) := by funext i; simp
        simp only [execOp, Instr.build, Sem.run_bind, run_zero hz, Result.andThen_ok, run_underlying hu, hm]
        have : (parts.toArray.map fun (x : Nat × Operand) => (x.1, a.eval x.2)).toList = parts.map fun (i, y) => (i, a.eval y) := by simp
        rw [this]
        simp only [hpl, k1]
        simp
    · have := Rep.agg (w := w) (ok := ok) _ out.toList k2.length (fun j d hd => k3 d (List.mem_of_getElem? hd)) fun j d v h1 h2 => k2.get j d v h1 h2
      show Rep _ _ _ _
      simpa using this

theorem aB {α : Type} (xs : List (List α)) (sz : Nat) (h : ∀ x ∈ xs, x.length = sz) (i j : Nat) (x : List α) (hx : xs[i]? = some x) (hj : j < sz) : xs.flatten[i * sz + j]? = x[j]? := by
  induction xs generalizing i with
  | nil => simp at hx
  | cons y ys ih =>
    have hy := h y (by simp)
    cases i with
    | zero =>
      simp only [List.getElem?_cons_zero, Option.some.injEq] at hx
      subst hx
      rw [List.flatten_cons, Nat.zero_mul, Nat.zero_add, List.getElem?_append_left (by omega)]
    | succ i =>
      rw [List.flatten_cons, List.getElem?_append_right (by rw [hy, Nat.succ_mul]; omega), hy, show (i + 1) * sz + j - sz = i * sz + j by rw [Nat.succ_mul]; omega]
      exact ih (fun x hx => h x (by simp [hx])) i (by simpa using hx)
/-- The slices that a literal makes. -/
theorem Rep.slNew {w : World} {ok : Nat → Prop} {sz b : Nat} {es : List (List D)} {out : Array Value} {e : TypeId} (hsz : ∀ x ∈ es, x.length = sz) (hL : RepL w ok es.flatten out.toList) (hS : scAll es.flatten) (hb : w.heap[b]? = some (.cells out e (0, 0))) (hok : ok b) (hmax : es.length ≤ maxLen) :
    Rep w ok (.sl sz es) (.slice (some ⟨b, 0, none⟩) es.length es.length) := by
  have key : ∀ (i : Nat) (x : List D) (j : Nat) (d : D), es[i]? = some x → x[j]? = some d → es.flatten[i * sz + j]? = some d := fun i x j d hi hj => by
    have hxl := hsz x (List.mem_of_getElem? hi)
    have hjl := (List.getElem?_eq_some_iff.1 hj).1
    rw [aB es sz hsz i j x hi (by omega)]; exact hj
  exact .sl sz es b 0 es.length (fun i j => out.getD (i * sz + j) undef) (heap_lt hb) hok (Nat.le_refl _) hmax (fun i x hx => hsz x (List.mem_of_getElem? hx)) (fun i x j d hi hj => hS d (List.mem_of_getElem? (key i x j d hi hj))) (fun i x j d hi hj => by
    obtain ⟨v, hv, _⟩ := hL.at_ (key i x j d hi hj)
    have hv' : out[i * sz + j]? = some v := by simpa using hv
    rw [cell_of_block hb, Nat.zero_add, hv', getD_val hv']) (fun i x j d hi hj => by
    obtain ⟨v, hv, hr⟩ := hL.at_ (key i x j d hi hj)
    have hv' : out[i * sz + j]? = some v := by simpa using hv
    rw [getD_val hv']; exact hr)
/-- n elements laid one behind the other fill a row. -/
theorem fillD_flat {sz : Nat} : ∀ {pds : List (Nat × D)} {k m : Nat} {cs : List D}, (∀ j (p : Nat × D), pds[j]? = some p → p.1 = k + j ∧ p.2.cells.length = sz) → cs.length = m * sz → k + pds.length = m →
    fillD (fun i => some (i * sz, sz)) cs pds = cs.take (k * sz) ++ (pds.map fun p => p.2.cells).flatten
  | [], k, m, cs, _, hl, hk => by
    simp only [List.length_nil, Nat.add_zero] at hk
    subst hk
    simp [fillD, ← hl]
  | (i, d) :: pds, k, m, cs, h, hl, hk => by
    obtain ⟨h1, h2⟩ := h 0 (i, d) rfl
    simp only [Nat.add_zero] at h1 h2
    subst h1
    simp only [List.length_cons] at hk
    have hle : i * sz + d.cells.length ≤ cs.length := by
      rw [hl, h2]
      have : (i + 1) * sz ≤ m * sz := Nat.mul_le_mul_right _ (by omega)
      rw [Nat.succ_mul] at this; exact this
    have ih := fillD_flat (sz := sz) (pds := pds) (k := i + 1) (m := m) (cs := setCs cs (i * sz) d.cells) (fun j p hj => by
      obtain ⟨q1, q2⟩ := h (j + 1) p (by simpa using hj)
      exact ⟨by omega, q2⟩) (by rw [setCs_length hle, hl]) (by omega)
    simp only [fillD, ih, List.map_cons, List.flatten_cons]
    have : (setCs cs (i * sz) d.cells).take ((i + 1) * sz) = cs.take (i * sz) ++ d.cells := by
      unfold setCs
      have hlt : (cs.take (i * sz) ++ d.cells).length = (i + 1) * sz := by rw [List.length_append, List.length_take, h2, Nat.succ_mul]; omega
      rw [← hlt, List.take_left]
    rw [this, List.append_assoc]
def idxOk (sz : Nat) : Nat → List (Nat × D) → Prop
  | _, [] => True
  | k, (i, d) :: ps => i = k ∧ d.cells.length = sz ∧ idxOk sz (k + 1) ps
theorem idxOk.spec {sz : Nat} : ∀ {k : Nat} {pds : List (Nat × D)}, idxOk sz k pds → ∀ j (p : Nat × D), pds[j]? = some p → p.1 = k + j ∧ p.2.cells.length = sz
  | _, [], _, j, p, h => by simp at h
  | k, (i, d) :: ps, hh, 0, p, h => by simp at h; subst h; exact ⟨hh.1, hh.2.1⟩
  | k, (i, d) :: ps, hh, j + 1, p, h => by
    obtain ⟨h1, h2⟩ := idxOk.spec hh.2.2 j p (by simpa using h)
    exact ⟨by omega, h2⟩
theorem q_buildSlice {t : TypeId} {m e sz : Nat} {z : Value} {parts : List (Nat × Operand)} {pds : List (Nat × D)} {es : List (List D)} (ht : slB P t e sz = true) (hz : zrB P e z) (h1 : z.cells.toList.all Value.oneCell' = true) (hzs : z.cells.size = sz) (hs0 : 0 < sz)
    (hpd : PartsD ev parts pds) (hidx' : idxOk sz 0 pds) (hm : pds.length = m) (hsmall : m * sz ≤ 16777216) (hes : (pds.map fun p => p.2.cells) = es) : QOp P w0 n s ev ⟨dst, .buildSlice t m parts.toArray, ty, pos, after, g⟩ (.d (.sl sz es)) :=
  .mk fun a w ok blk val h _ hnew => by
    subst hes
    have hidx : ∀ j (p : Nat × D), pds[j]? = some p → p.1 = j ∧ p.2.cells.length = sz := fun j p h => by simpa using hidx'.spec j p h
    have hzl : z.cells.toList.length = sz := by simpa using hzs
    let zc : Array Value := (Array.range (m * sz)).map (z.cells[· % z.cells.size]!)
    have hzc : RepL w (ok) ((List.range (m * sz)).map fun j => D.v (z.cells[j % z.cells.size]!)) zc.toList ∧ scAll ((List.range (m * sz)).map fun j => D.v (z.cells[j % z.cells.size]!)) := by
      refine ⟨RepL.of (by simp [zc]) fun j d v hd hv => ?_, fun d hd => ?_⟩
      · have hj := (List.getElem?_eq_some_iff.1 hd).1
        simp at hj
        simp [hj] at hd
        simp [zc, hj] at hv
        subst hd; subst hv
        refine .v _ ?_
        have hlt : j % z.cells.size < z.cells.size := Nat.mod_lt _ (by omega)
        have := List.all_eq_true.1 h1 z.cells[j % z.cells.size] (by simp)
        simpa [hlt] using this
      · obtain ⟨j, _, rfl⟩ := List.mem_map.1 hd; rfl
    have hzlen : ((List.range (m * sz)).map fun j => D.v (z.cells[j % z.cells.size]!)).length = m * sz := by simp
    have hfo : ∀ (qs : List (Nat × D)), (∀ p ∈ qs, p.1 < m ∧ p.2.cells.length = sz) → fillOk (fun i => some (i * sz, sz)) (m * sz) qs := by
      intro qs
      induction qs with
      | nil => intro _; trivial
      | cons p qs ih =>
        obtain ⟨i, d⟩ := p
        intro hq
        obtain ⟨q1, q2⟩ := hq (i, d) (by simp)
        refine ⟨⟨q2, ?_⟩, ih fun p hp => hq p (by simp [hp])⟩
        have : (i + 1) * sz ≤ m * sz := Nat.mul_le_mul_right _ q1
        rw [Nat.succ_mul] at this; exact this
    obtain ⟨out, k1, k2, k3⟩ := fill_rep h (pl := fun i => some (i * sz, sz)) (cells := zc) hpd hzc.1 hzc.2 (by
      rw [hzlen]
      refine hfo _ fun p hp => ?_
      obtain ⟨j, hj⟩ := List.getElem?_of_mem hp
      have hjl := (List.getElem?_eq_some_iff.1 hj).1
      obtain ⟨q1, q2⟩ := hidx j p hj
      exact ⟨by omega, q2⟩)
    have hflat := fillD_flat (sz := sz) (pds := pds) (k := 0) (m := m) (cs := (List.range (m * sz)).map fun j => D.v (z.cells[j % z.cells.size]!)) (fun j p hj => by simpa using hidx j p hj) hzlen (by omega)
    rw [Nat.zero_mul, List.take_zero, List.nil_append] at hflat
    rw [hflat] at k2 k3
    have hE : Ext w (w.alloc (.cells out e)) := (Ext.refl w).alloc _
    refine ⟨.slice (some ⟨w.heap.size, 0, none⟩) m m, w.alloc (.cells out e), ?_, hE, ?_⟩
    · obtain ⟨inf, hi, hsi⟩ := slB_info ht
      have hlen : ¬ m * sz > 2 ^ 24 := by omega
      have hparts : (parts.toArray.map fun (x : Nat × Operand) => (x.1, a.eval x.2)).toList = parts.map fun (i, y) => (i, a.eval y) := by simp
      by_cases h0 : m * sz = 0
      · have hz0 : zc = #[] := by simp [zc, h0]
        rw [hz0] at k1
        have hr0 : Array.range 0 = #[] := rfl
        simp only [execOp, Instr.buildSlice, Sem.run_bind, run_underlying (slB_under ht), Result.andThen_ok, sizeOf, my_typeInfo hi, Sem.run_pure, hsi, Sem.run_ite, if_neg hlen, hparts, h0, if_true, hr0]
        have hma : ∀ f : Nat → Value, Array.map f #[] = #[] := fun f => by simp
        simp only [hma, k1]
        simp [newRow]
      · simp only [execOp, Instr.buildSlice, Sem.run_bind, run_underlying (slB_under ht), Result.andThen_ok, sizeOf, my_typeInfo hi, Sem.run_pure, hsi, Sem.run_ite, if_neg hlen, hparts, if_neg h0, run_zero hz]
        have k1' := k1
        simp only [zc] at k1'
        simp only [k1']
        simp [newRow]
    · have := Rep.slNew (w := w.alloc (.cells out e)) (ok := ok) (sz := sz) (b := w.heap.size) (es := pds.map fun p => p.2.cells) (out := out) (e := e) (fun x hx => by
          obtain ⟨p, hp, rfl⟩ := List.mem_map.1 hx
          obtain ⟨j, hj⟩ := List.getElem?_of_mem hp
          exact (hidx j p hj).2) (RepL.of k2.length fun j d v h1 h2 => (k2.get j d v h1 h2).ext hE fun _ _ h => h) k3 (new_block _ _) (hnew _ (Nat.le_refl _)) (by
          have h5 : m ≤ m * sz := Nat.le_mul_of_pos_right _ hs0
          simp [maxLen]; omega)
      rw [List.length_map, hm] at this
      exact this
end
end Go.Proofs.Ytgdcidbpadhkpaa.Am
