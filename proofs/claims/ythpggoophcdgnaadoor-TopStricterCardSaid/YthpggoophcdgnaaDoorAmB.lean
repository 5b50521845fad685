/- The abstract machine, parts 11 to 18. Conditions: none. -/
import Derived.OwnWalk
import Derived.WalkSpells
import Derived.Test.YthpggoophcdgnaaDoorAmA
set_option linter.unusedVariables false
set_option linter.unusedSimpArgs false
namespace Go.Proofs.YthpggoophcdgnaaDoor.Am
open Go

section
variable {P : Program} {w0 : Cx} {n : Nat} {s : Nat → Site} {ev : Operand → T} {dst : Option Tmp} {ty : TypeId} {pos : String} {after : Array Edge} {g : Option (Nat × Bool)}

theorem run_builtin_len {o : Oper} {a : Act} {w : World} {y : Operand} {t : TypeId} {k : Int} (ho : o.op = .call ⟨.builtin .len, #[y], #[t]⟩) (h : (Builtin.len_ #[t] o.type #[a.eval y]).run P w = .ok (.int .i64 k) w) : (execOp a.eval o).run P w = .ok (.value (.int .i64 k)) w := by
  simp [execOp, ho, resolve, invoke, builtin, h]
def isSl (P : Program) (t : TypeId) : Bool := match P.underlying t with | some (.slice _) => true | _ => false
theorem isSl_under {t : TypeId} (h : isSl P t = true) : ∃ e, P.underlying t = some (.slice e) := by
  unfold isSl at h
  cases hu : P.underlying t with
  | none => simp [hu] at h
  | some d => cases d <;> simp [hu] at h ⊢
theorem q_len {y : Operand} {t : TypeId} {sz m : Nat} {es : List (List D)} (ht : isSl P t = true) (hy : ev y = .d (.sl sz es)) (hm : es.length = m) : QOp P w0 n s ev ⟨dst, .call ⟨.builtin .len, #[y], #[t]⟩, ty, pos, after, g⟩ (T.i m) :=
  .mk fun a w ok blk val h _ hnew => by
    subst hm
    obtain ⟨A, cap, hv, _⟩ := sl_inv (show Rep w _ (.sl sz es) (a.eval y) by have := h y; rw [hy] at this; exact this)
    obtain ⟨e, he⟩ := isSl_under ht
    exact ⟨_, w, run_builtin_len rfl (by simp [Builtin.len_, run_underlying he, hv, goInt]), Ext.refl w, .v _ rfl⟩
def isStr (P : Program) (t : TypeId) : Bool := match P.underlying t with | some .string => true | _ => false
theorem isStr_under {t : TypeId} (h : isStr P t = true) : P.underlying t = some .string := by
  unfold isStr at h
  cases hu : P.underlying t with
  | none => simp [hu] at h
  | some d => cases d <;> simp [hu] at h ⊢
theorem q_len_str {y : Operand} {t : TypeId} {b : ByteArray} (ht : isStr P t = true) (hy : ev y = .d (.v (.string b))) : QOp P w0 n s ev ⟨dst, .call ⟨.builtin .len, #[y], #[t]⟩, ty, pos, after, g⟩ (T.i b.size) :=
  .mk fun a w ok blk val h _ hnew => by
    have hv : a.eval y = .string b := RepT.v_eq (hy ▸ h y)
    exact ⟨_, w, run_builtin_len rfl (by simp [Builtin.len_, run_underlying (isStr_under ht), hv, goInt]), Ext.refl w, .v _ rfl⟩
theorem q_min {x y : Operand} {ts : Array TypeId} {a b : Int} {k : IntKind} (hx : ev x = .d (.v (.int k a))) (hy : ev y = .d (.v (.int k b))) : QOp P w0 n s ev ⟨dst, .call ⟨.builtin .min, #[x, y], ts⟩, ty, pos, after, g⟩ (.d (.v (.int k (min a b)))) :=
  .mk fun act w ok blk val h _ _ => by
    have h1 : act.eval x = .int k a := RepT.v_eq (hx ▸ h x)
    have h2 : act.eval y = .int k b := RepT.v_eq (hy ▸ h y)
    have hm : (if b < a then b else a) = min a b := by split <;> omega
    exact ⟨_, w, by simp [execOp, resolve, invoke, builtin, Builtin.min_, Builtin.min2, h1, h2, ← hm], Ext.refl w, .v _ rfl⟩

theorem q_index_str {t : TypeId} {y z : Operand} {b : ByteArray} {i : Int} {k : IntKind} {c : UInt8} (ht : isStr P t = true) (hy : ev y = .d (.v (.string b))) (hz : ev z = .d (.v (.int k i))) (h0 : 0 ≤ i) (hc : b[i.toNat]? = some c) :
    QOp P w0 n s ev ⟨dst, .index t y z, ty, pos, after, g⟩ (.d (.v (.int .u8 c.toNat))) :=
  .mk fun a w ok blk val h _ hnew => by
    have h1 : a.eval y = .string b := RepT.v_eq (hy ▸ h y)
    have h2 : a.eval z = .int k i := RepT.v_eq (hz ▸ h z)
    exact ⟨_, w, by simp [execOp, Instr.index, h1, h2, asIntOf, run_underlying (isStr_under ht), h0, hc], Ext.refl w, .v _ rfl⟩
def arB (P : Program) (t m e sz : Nat) : Bool := (match P.underlying t with | some (.array m' e') => m' == m && e' == e | _ => false) && (match P.info? e with | some i => i.size == sz | none => false)
theorem arB_under {t m e sz : Nat} (h : arB P t m e sz = true) : P.underlying t = some (.array m e) := by
  simp only [arB, Bool.and_eq_true] at h
  cases hu : P.underlying t with
  | none => simp [hu] at h
  | some d => cases d <;> simp [hu] at h <;> rw [h.1.1, h.1.2]
theorem arB_info {t m e sz : Nat} (h : arB P t m e sz = true) : ∃ i, P.info? e = some i ∧ i.size = sz := by
  simp only [arB, Bool.and_eq_true] at h
  cases hu : P.info? e with
  | none => simp [hu] at h
  | some d => simp [hu] at h; exact ⟨d, rfl, h.2⟩
theorem run_indexAt_ar {t m e sz b o : Nat} {i : Int} {k : IntKind} (h : arB P t m e sz = true) (h0 : 0 ≤ i) (h1 : i < m) (w : World) :
    (Instr.indexAt t (.pointer (some ⟨b, o, none⟩)) (.int k i)).run P w = .ok (.pointer (some ⟨b, o + i.toNat * sz, none⟩)) w := by
  obtain ⟨inf, hi, hs⟩ := arB_info h
  simp [Instr.indexAt, asIntOf, run_underlying (arB_under h), Instr.sureAddr, h0, h1, sizeOf, my_typeInfo hi, hs, addr_add]
theorem q_indexAddr_ar {t : TypeId} {y z : Operand} {m e sz o : Nat} {cs : List D} {i : Int} {k : IntKind} (ht : arB P t m e sz = true) (hy : ev y = .d (.pt cs o)) (hz : ev z = .d (.v (.int k i))) (h0 : 0 ≤ i) (h1 : i < m) : QOp P w0 n s ev ⟨dst, .indexAddr t y z, ty, pos, after, g⟩ (.d (.pt cs (o + i.toNat * sz))) :=
  .mk fun a w ok blk val h _ hnew => by
    obtain ⟨b, of, vs, hv, hb, hok, hs, hc, hr⟩ := pt_inv (show Rep w _ (.pt cs o) (a.eval y) by have := h y; rw [hy] at this; exact this)
    have h2 : a.eval z = .int k i := RepT.v_eq (hz ▸ h z)
    refine ⟨.pointer (some ⟨b, of + (o + i.toNat * sz), none⟩), w, ?_, Ext.refl w, Rep.pt cs _ b of vs hb hok hs hc hr⟩
    simp [execOp, hv, h2, run_indexAt_ar ht h0 h1, Nat.add_assoc]
theorem q_indexAddr_aref {t : TypeId} {y z : Operand} {m e sz o q : Nat} {i : Int} {k : IntKind} (ht : arB P t m e sz = true) (hy : ev y = .ref q o) (hz : ev z = .d (.v (.int k i))) (h0 : 0 ≤ i) (h1 : i < m) : QOp P w0 n s ev ⟨dst, .indexAddr t y z, ty, pos, after, g⟩ (.ref q (o + i.toNat * sz)) :=
  .mk fun a w ok blk val h _ hnew => by
    have := h y
    rw [hy] at this
    obtain ⟨hq, b, hb, hv⟩ := this
    have h2 : a.eval z = .int k i := RepT.v_eq (hz ▸ h z)
    refine ⟨.pointer (some ⟨b, o + i.toNat * sz, none⟩), w, ?_, Ext.refl w, ⟨hq, b, hb, rfl⟩⟩
    simp [execOp, hv, h2, run_indexAt_ar ht h0 h1]
theorem q_load_ref {t : TypeId} {y : Operand} {m q o : Nat} {cs : List D} {d : D} (ht : szB P t false m = true) (hy : ev y = .ref q o) (hq : s q = .box cs) (hd : cs[o]? = some d) : QOp P w0 n s ev ⟨dst, .load t y, ty, pos, after, g⟩ (.d d) :=
  .mk fun a w ok blk val h hs hnew => by
    have h1 := h y
    rw [hy] at h1
    obtain ⟨_, b, hb, hv⟩ := h1
    have h2 := hs q
    rw [hq] at h2
    obtain ⟨b', e, vals, hb', hheap, hsz, hsc, hc⟩ := h2
    rw [hb] at hb'; cases hb'
    obtain ⟨v, hv0, hr⟩ := hc o d hd
    refine ⟨v, w, ?_, Ext.refl w, hr⟩
    have hcell : w.cell? ⟨b, o, none⟩ = some v := by rw [cell_of_block hheap]; exact hv0
    simp [execOp, hv, Instr.loadAt, Instr.sureAddr, loadVar, szB_agg ht, hcell]
theorem q_load_refA {t : TypeId} {y : Operand} {m q o : Nat} {cs ds : List D} (ht : szB P t true m = true) (hy : ev y = .ref q o) (hq : s q = .box cs) (hd : (cs.drop o).take m = ds) (hl : ds.length = m) : QOp P w0 n s ev ⟨dst, .load t y, ty, pos, after, g⟩ (.d (.agg ds)) :=
  .mk fun a w ok blk val h hs hnew => by
    subst hd
    have h1 := h y
    rw [hy] at h1
    obtain ⟨_, b, hb, hv⟩ := h1
    have h2 := hs q
    rw [hq] at h2
    obtain ⟨b', e, vals, hb', hheap, hsz, hsc, hc⟩ := h2
    rw [hb] at hb'; cases hb'
    have hget : ∀ (j : Nat) (d : D), ((cs.drop o).take m)[j]? = some d → cs[o + j]? = some d := fun j d hj => by
      rw [List.getElem?_take] at hj
      split at hj
      · simpa [List.getElem?_drop] using hj
      · cases hj
    have hj : ∀ j, j < m → ∃ d, ((cs.drop o).take m)[j]? = some d := fun j hj => ⟨_, List.getElem?_eq_getElem (by omega)⟩
    have hrun := run_loadCells (P := P) w ⟨b, o, none⟩ m (fun j => vals.getD (o + j) undef) (fun j hjm => by
      obtain ⟨d, hd⟩ := hj j hjm
      obtain ⟨v, hv, _⟩ := hc _ d (hget j d hd)
      rw [addr_add, cell_of_block hheap, hv, getD_val hv])
    refine ⟨.agg ((List.range m).map fun j => vals.getD (o + j) undef).toArray, w, ?_, Ext.refl w, ?_⟩
    · simp only [execOp, hv, Instr.loadAt, Instr.sureAddr, loadVar, Sem.run_bind, Sem.run_pure, Result.andThen_ok, szB_agg ht, if_true, szB_size ht, hrun]
    · refine Rep.agg _ _ (by simpa using hl.symm) (fun j d hd => hsc _ d (hget j d hd)) fun j d v hd hv => ?_
      have hjm : j < m := by have := (List.getElem?_eq_some_iff.1 hv).1; simpa using this
      simp [hjm] at hv
      subst hv
      obtain ⟨v, hv, hr⟩ := hc _ d (hget j d hd)
      have := getD_val hv
      simp [Array.getD_eq_getD_getElem?] at this
      rw [this]; exact hr
theorem q_nilCheck {y : Operand} {cs : List D} {o : Nat} (hy : ev y = .d (.pt cs o)) : QOp P w0 n s ev ⟨dst, .nilCheck y, ty, pos, after, g⟩ (.d (.pt cs o)) :=
  .mk fun a w ok blk val h _ hnew => by
    have hr := show Rep w _ (.pt cs o) (a.eval y) by have := h y; rw [hy] at this; exact this
    obtain ⟨b, off, vs, hv, _⟩ := pt_inv hr
    exact ⟨a.eval y, w, by simp [execOp, hv], Ext.refl w, hr⟩
theorem q_nilCheck_ref {y : Operand} {q o : Nat} (hy : ev y = .ref q o) : QOp P w0 n s ev ⟨dst, .nilCheck y, ty, pos, after, g⟩ (.ref q o) :=
  .mk fun a w ok blk val h _ hnew => by
    have h1 := h y
    rw [hy] at h1
    have h2 := h1
    obtain ⟨_, b, hb, hv⟩ := h1
    exact ⟨a.eval y, w, by simp [execOp, hv], Ext.refl w, h2⟩
theorem q_makeFunc {f : FuncId} {ys : List Operand} {ds : List D} (ha : ArgsD ev ys ds) : QOp P w0 n s ev ⟨dst, .makeFunc (.func f) #[] ys.toArray, ty, pos, after, g⟩ (.d (.fn (.func f) ds)) :=
  .mk fun a w ok blk val h _ hnew => by
    have hL := args_rep h ha
    refine ⟨.func (.func f) #[] (ys.map a.eval).toArray, w, by simp [execOp, Instr.makeFunc], Ext.refl w, ?_⟩
    exact Rep.fn _ _ _ hL.length fun j d v h1 h2 => hL.get j d v h1 h2
def intB (P : Program) (t : TypeId) (k : IntKind) : Bool := match P.underlying t with | some (.int k') => k' == k | _ => false
theorem intB_under {t : TypeId} {k : IntKind} (h : intB P t k = true) : P.underlying t = some (.int k) := by
  unfold intB at h
  cases hu : P.underlying t with
  | none => simp [hu] at h
  | some d => cases d <;> simp [hu] at h ⊢; exact h
end
open Go

theorem In64.mk {n : Int} (h1 : -9223372036854775808 ≤ n) (h2 : n ≤ 9223372036854775807) : In64 n := ⟨h1, h2⟩
theorem T.bool_inj {a b : Bool} (h : T.bool a = T.bool b) : a = b := by simpa [T.bool] using h
theorem map_at {α : Type} {f : α → List D} {l : List α} {k : Nat} {i : Int} {a : α} (hi : i = (k : Int)) (h : l[k]? = some a) : (l.map f)[i.toNat]? = some (f a) := by
  subst hi; simp [h]
theorem len_map {α : Type} (f : α → List D) (l : List α) : (l.map f).length = l.length := List.length_map _
theorem bif_and (a b : Bool) : (bif a then b else false) = (a && b) := by cases a <;> rfl
theorem bif_or (a b : Bool) : (bif a then true else b) = (a || b) := by cases a <;> rfl
theorem nb : (∀ (p : Prop) [Decidable p], (decide p = true) = p) ∧ (∀ (p : Prop) [Decidable p], (decide p = false) ↔ ¬p) ∧ (∀ a b : Bool, ((a && b) = true) = (a = true ∧ b = true)) ∧ (∀ a b : Bool, ((a || b) = true) = (a = true ∨ b = true)) ∧ (∀ a b : Bool, ((a && b) = false) ↔ (a = false ∨ b = false)) ∧ (∀ a b : Bool, ((a || b) = false) ↔ (a = false ∧ b = false)) ∧ (∀ b : Bool, ((!b) = true) = (b = false)) ∧ (∀ b : Bool, ((!b) = false) = (b = true)) ∧ ((!true) = false) ∧ ((!false) = true) ∧ (∀ a b : Bool, (bif a then b else false) = (a && b)) ∧ (∀ a b : Bool, (bif a then true else b) = (a || b)) ∧ (∀ b : Bool, (!!b) = b) ∧ (∀ (p : Prop) [Decidable p], (¬¬p) ↔ p) ∧ ((¬True) = False) ∧ ((¬False) = True) ∧ (∀ a b : Int, (¬a ≤ b) ↔ b < a) ∧ (∀ a b : Int, (¬a < b) ↔ b ≤ a) :=
  ⟨fun p _ => decide_eq_true_eq, fun p _ => decide_eq_false_iff_not, Bool.and_eq_true, Bool.or_eq_true, fun a b => Bool.and_eq_false_iff, fun a b => Bool.or_eq_false_iff, fun b => by cases b <;> simp, fun b => by cases b <;> simp, rfl, rfl, bif_and, bif_or, Bool.not_not, fun p _ => Decidable.not_not, not_true_eq_false, not_false_eq_true, fun a b => Int.not_le, fun a b => Int.not_lt⟩

section
variable {P : Program} {w0 : Cx} {n : Nat} {s : Nat → Site} {ev : Operand → T} {dst : Option Tmp} {ty : TypeId} {pos : String} {after : Array Edge} {g : Option (Nat × Bool)} {ops : List Oper} {rest : List Oper} {R : Exit → St → Prop} {st : St}

theorem awp_len {c : Code} {t sz : Nat} {es : List (List D)} (h : st.t t = .d (.sl sz es)) (hk : es.length ≤ 9223372036854775807 → Awp P w0 c R st) : Awp P w0 c R st := by
  intro F m hF a w hH
  refine hk ?_ F m hF a w hH
  obtain ⟨blk, val, hh⟩ := hH
  have h1 := hh.tmp t
  rw [h] at h1
  obtain ⟨A, cap, _, hn, hcap, _⟩ := sl_inv (show Rep w _ (.sl sz es) _ from h1)
  unfold maxLen at hcap
  omega
theorem le_own {k e sz : Nat} (ht : st.t k = .d (.v (.slice none 0 0))) (hs : st.s k = .no) : Le w0 st ((st.site k (.row e sz [])).put (some k) (.rs k)) := by
  intro a w ⟨blk, val, hh⟩
  have hbk : blk k = none := by have := hh.site k; rw [hs] at this; exact this
  have hv : a.tmps.getD k undef = .slice none 0 0 := by have := hh.tmp k; rw [ht] at this; exact Rep.v_eq this
  have hno : ∀ j, st.s j ≠ .no → Nat.beq j k = false := fun j hj => by rw [← Bool.not_eq_true]; intro e; rw [Nat.eq_of_beq_eq_true e] at hj; exact hj hs
  have hrel : ∀ j, st.s j ≠ .no → blk j = blk j ∧ (bif Nat.beq j k then .slice none 0 0 else val j) = val j ∧ (st.s j ≠ .no → (st.site k (.row e sz [])).s j ≠ .no) ∧ ((∃ e sz es, st.s j = .row e sz es) → ∃ e' sz' es', (st.site k (.row e sz [])).s j = .row e' sz' es') := fun j hj => by
    simp only [St.site, hno j hj, cond_false]
    exact ⟨trivial, trivial, id, id⟩
  have live : ∀ y v, RepT w (okOf w0 blk) blk val st.s y v → ∀ j, (y = .rs j ∨ (∃ o, y = .ref j o) ∨ ∃ r f g, y = .own j r f g) → st.s j ≠ .no := fun y v hy j hj => by
    rcases hj with rfl | ⟨o, rfl⟩ | ⟨_, _, _, rfl⟩
    · obtain ⟨⟨e, sz, es, q⟩, _⟩ := hy; rw [q]; simp
    · exact hy.1
    · exact hy.1.1.1
  refine ⟨blk, fun j => bif Nat.beq j k then .slice none 0 0 else val j, hh.ext, hh.defers, hh.size, hh.new, hh.inj, fun j b hj => ?_, fun j => ?_, fun t => ?_⟩
  · obtain ⟨q1, q2, q3⟩ := hh.pin j b hj
    have : st.s j ≠ .no := fun e => by rw [e] at q2; cases q2
    refine ⟨q1, ?_, q3⟩
    show ((st.site k (.row e sz [])).s j).isVar = true
    simp only [St.site, hno j this, cond_false]; exact q2
  · show SiteIn _ _ _ _ (st.site k (.row e sz [])).s _ _ ((st.site k (.row e sz [])).s j)
    cases hjk : Nat.beq j k
    · simp only [St.site, hjk, cond_false]
      refine (hh.site j).to (fun _ _ h => h) (.inl rfl) fun cs hcs y hy i hi => ?_
      have h0 := hh.site j
      rw [hcs] at h0
      obtain ⟨_, _, _, _, _, _, h5⟩ := h0
      obtain ⟨q, hq⟩ := List.getElem?_of_mem hy
      obtain ⟨v, _, _, hr⟩ := h5 q y hq
      exact hrel i (live y v hr i hi)
    · simp only [St.site, hjk, cond_true]
      rw [Nat.eq_of_beq_eq_true hjk, hbk]
      exact ⟨fun i x h => by simp at h, fun i x j d h => by simp at h, .inl ⟨rfl, rfl, rfl⟩⟩
  · show RepT _ _ _ _ (st.site k (.row e sz [])).s (bif Nat.beq t k then .rs k else st.t t) _
    cases htk : Nat.beq t k
    · simp only [cond_false]
      exact (hh.tmp t).to (fun _ _ h => h) fun j hj => hrel j (live _ _ (hh.tmp t) j hj)
    · simp only [cond_true]
      rw [Nat.eq_of_beq_eq_true htk, hv]
      exact ⟨⟨e, sz, [], by simp [St.site]⟩, by simp⟩
end
open Go

section
variable {P : Program} {w0 : Cx} {ops : List Oper} {rest : List Oper} {R : Exit → St → Prop} {st : St} {ty : TypeId} {pos : String} {after : Array Edge}

theorem aops_box {d : Nat} {e : TypeId} {y : Operand} {X : D} {cs : List D} (hy : st.ev y = .d X) (hX : X.sc = true ∨ ∃ cs, X = .agg cs) (hd : Nat.blt d st.n = true) (hs : st.s d = .no) (hcs : X.cells = cs) (h : Aops P w0 ops rest R ((st.site d (.box cs)).put (some d) (.ref d 0))) :
    Aops P w0 ops (⟨some d, .box e y, ty, pos, after, none⟩ :: rest) R st := by
  subst hcs
  refine aops_step (K := fun s => s = (st.site d (.box X.cells)).put (some d) (.ref d 0)) rfl (fun a w ⟨blk, val, hh⟩ => ?_) (fun _ e => e ▸ h)
  have hr : Rep w (okOf w0 blk) X (a.eval y) := by have := hh.ev y; rw [hy] at this; exact this
  obtain ⟨hL, hsc⟩ := cells_inv hr hX
  have hE : Ext w (w.alloc (.cells (a.eval y).cells e)) := (Ext.refl w).alloc _
  refine wp_value (v := .pointer (some ⟨w.heap.size, 0, none⟩)) (w' := w.alloc (.cells (a.eval y).cells e)) (by simp [execOp, Instr.box, newVar, newRow]) ⟨_, rfl, ?_⟩
  have hH := hh.allocSite (k := d) (x := .box X.cells) (u := undef) (o := .cells (a.eval y).cells e) hs ⟨w.heap.size, e, (a.eval y).cells, rfl, new_block _ _, by have := hL.length; simpa using this, hsc, fun j x hx => by
      obtain ⟨v, hv, hr⟩ := hL.at_ hx
      refine ⟨v, by simpa using hv, (hr.ok (ok' := fun b => okOf w0 blk b ∧ b ≠ w.heap.size) fun b hb h => ⟨h, by omega⟩).ext hE fun _ _ h => h⟩⟩
  exact ⟨_, _, put_hold hH (by simpa [Nat.blt_eq, St.site] using hd) ⟨by simp [St.site], w.heap.size, by simp, rfl⟩⟩

def byB (P : Program) (e b : Nat) : Bool := match P.info? e with | some i => i.bytes == b | none => false
theorem byB_info {e b : Nat} (h : byB P e b = true) : ∃ i, P.info? e = some i ∧ i.bytes = b := by
  unfold byB at h
  cases hu : P.info? e with
  | none => simp [hu] at h
  | some d => simp [hu] at h; exact ⟨d, rfl, h⟩
theorem zrB_info {e : Nat} {z : Value} {i : TypeInfo} (h : zrB P e z) (hi : P.info? e = some i) : i.zero = some z := by
  unfold zrB at h; rw [hi] at h; exact h
theorem aops_empty {d : Nat} {t e sz : Nat} {z : Value} (ht : slB P t e sz = true) (hz : zrB P e z) (hd : Nat.blt d st.n = true) (hs : st.s d = .no) (h : Aops P w0 ops rest R ((st.site d (.row e sz [])).put (some d) (.rs d))) :
    Aops P w0 ops (⟨some d, .buildSlice t 0 #[], ty, pos, after, none⟩ :: rest) R st := by
  refine aops_step (K := fun s => s = (st.site d (.row e sz [])).put (some d) (.rs d)) rfl (fun a w ⟨blk, val, hh⟩ => ?_) (fun _ e => e ▸ h)
  obtain ⟨i, hi, hsi⟩ := slB_info ht
  refine wp_value (v := .slice (some ⟨w.heap.size, 0, none⟩) 0 0) (w' := w.alloc (.cells #[] e)) (by
    have hr0 : Array.range 0 = #[] := rfl
    have hma : ∀ f : Nat → Value, Array.map f #[] = #[] := fun f => by simp
    simp [execOp, Instr.buildSlice, run_underlying (slB_under ht), sizeOf, my_typeInfo hi, hr0, Instr.fill, newRow]) ⟨_, rfl, ?_⟩
  have hH := hh.allocSite (k := d) (x := .row e sz []) (u := .slice (some ⟨w.heap.size, 0, none⟩) 0 0) (o := .cells #[] e) hs ⟨fun i x hx => by simp at hx, fun i x j y hx => by simp at hx, .inr ⟨w.heap.size, #[], 0, rfl, rfl, Nat.le_refl _, Nat.zero_le _, new_block _ _, by simp, fun i x j y hx => by simp at hx⟩⟩
  exact ⟨_, _, put_hold hH (by simpa [Nat.blt_eq, St.site] using hd) ⟨⟨e, sz, [], by simp [St.site]⟩, by simp⟩⟩

def St.killS (st : St) (k : Nat) : St := { st with t := fun t => killT [k] (st.t t), s := fun j => killSite [k] (st.s j) }
theorem Hold.grow {a : Act} {w w' : World} {blk : Nat → Option Nat} {val : Nat → Value} {k : Nat} {x : Site} {u : Value} {nb : Option Nat} (hh : Hold w0 st a w blk val) (hg : w.grownBy w' (blk k)) (hnb : ∀ b, nb = some b → Ours w0 b ∧ b < w'.heap.size) (hfresh : ∀ b, nb = some b → blk k = some b ∨ w.heap.size ≤ b)
    (hx : SiteIn w' (fun b => okOf w0 blk b ∧ nb ≠ some b ∧ b < w.heap.size) blk val st.s nb u x) (hrow : ∃ e sz es, x = .row e sz es) (hkr : (st.s k).isVar = false) : Hold w0 ((st.killS k).site k x) a w' (fun j => bif Nat.beq j k then nb else blk j) (fun j => bif Nat.beq j k then u else val j) := by
  have keepOk : ∀ b o, (okOf w0 blk b) → w.heap[b]? = some o → w'.heap[b]? = some o := fun b o hok ho => by
    rw [hg.block b (heap_lt ho) (fun e => hok.2 k e.symm)]; exact ho
  have hok : ∀ b, okOf w0 blk b → b < w.heap.size → okOf w0 (fun j => bif Nat.beq j k then nb else blk j) b := fun b h hlt => ⟨h.1, fun j hj => by
    cases hjk : Nat.beq j k <;> simp only [hjk, cond_true, cond_false] at hj
    · exact h.2 j hj
    · rcases hfresh b hj with e | e
      · exact h.2 k e
      · omega⟩
  have keep : ∀ {d : D} {v : Value}, Rep w (okOf w0 blk) d v → Rep w' (okOf w0 (fun j => bif Nat.beq j k then nb else blk j)) d v := fun h =>
    h.keep hg.size (fun b o h1 h2 => keepOk b o h1 h2) fun b hb h => hok b h hb
  have hbj : ∀ j c, Nat.beq j k = false → blk j = some c → c < w.heap.size ∧ blk k ≠ some c := fun j c hjk hc => ⟨(hh.new j c hc).2, fun e => by
    have := hh.inj j k c hc e
    subst this; simp at hjk⟩
  obtain ⟨ex, szx, esx, hxr⟩ := hrow
  -- a temporary that does not speak of site k
  have keepT : ∀ {y : T} {v : Value}, RepT w (okOf w0 blk) blk val st.s y v → RepT w' (okOf w0 (fun j => bif Nat.beq j k then nb else blk j)) (fun j => bif Nat.beq j k then nb else blk j) (fun j => bif Nat.beq j k then u else val j) ((st.killS k).site k x).s (killT [k] y) v := fun {y v} h => by
    cases y with
    | d y => exact keep h
    | ref j o =>
      simp only [killT, memN, Bool.or_false]
      cases hjk : Nat.beq j k
      · obtain ⟨q1, c, q2, q3⟩ := h
        exact ⟨by simp only [St.site, St.killS, hjk, cond_false]; exact killSite_row.1 q1, c, by simp only [hjk, cond_false]; exact q2, q3⟩
      · trivial
    | rs j =>
      simp only [killT, memN, Bool.or_false]
      cases hjk : Nat.beq j k
      · obtain ⟨q1, q3⟩ := h
        exact ⟨by simp only [St.site, St.killS, hjk, cond_false]; exact killSite_row.2 q1, by simp only [hjk, cond_false]; exact q3⟩
      · trivial
    | own j r f g =>
      simp only [killT, memN, Bool.or_false]
      cases hjk : Nat.beq j k
      · obtain ⟨⟨⟨q0, q1⟩, qo⟩, q3⟩ := h
        exact ⟨⟨⟨by simp only [St.site, St.killS, hjk, cond_false]; exact killSite_row.1 q0, fun hr => by simp only [St.site, St.killS, hjk, cond_false]; exact killSite_row.2 (q1 hr)⟩, qo⟩, by simp only [hjk, cond_false]; exact q3.imp fun _ _ h => keep h⟩
      · trivial
    | un => exact h
    | dead => trivial
  refine ⟨⟨hg.os.trans hh.ext.os, hg.tape.trans hh.ext.tape, hg.output.trans hh.ext.output, Nat.le_trans hh.ext.size hg.size, fun j hj hm => ?_⟩, hh.kept fun j hj hn => hg.block j hj (fun e => hn k e.symm), hh.size, fun j c hj => ?_, fun i j c hi hj => ?_, fun j c hj => ?_, fun j => ?_, fun t => ?_⟩
  · rw [hg.block j (Nat.lt_of_lt_of_le hj hh.ext.size) (fun e => by rcases (hh.new k j e.symm).1 with q | q; omega; exact hm q)]; exact hh.ext.block j hj hm
  · cases hjk : Nat.beq j k <;> simp only [hjk, cond_true, cond_false] at hj
    · exact ⟨(hh.new j c hj).1, Nat.lt_of_lt_of_le (hh.new j c hj).2 hg.size⟩
    · exact hnb c hj
  · cases hik : Nat.beq i k <;> cases hjk : Nat.beq j k <;> simp only [hik, hjk, cond_true, cond_false] at hi hj
    · exact hh.inj i j c hi hj
    · obtain ⟨q1, q2⟩ := hbj i c hik hi
      rcases hfresh c hj with e | e
      · exact absurd e q2
      · omega
    · obtain ⟨q1, q2⟩ := hbj j c hjk hj
      rcases hfresh c hi with e | e
      · exact absurd e q2
      · omega
    · rw [Nat.eq_of_beq_eq_true hik, Nat.eq_of_beq_eq_true hjk]
  · obtain ⟨q1, q2, q3⟩ := hh.pin j c hj
    have hjk : Nat.beq j k = false := by rw [← Bool.not_eq_true]; intro e; rw [Nat.eq_of_beq_eq_true e, hkr] at q2; cases q2
    refine ⟨by simp only [hjk, cond_false]; exact q1, ?_, q3⟩
    simp only [St.site, St.killS, hjk, cond_false]
    cases hs : st.s j <;> rw [hs] at q2 <;> first | rfl | cases q2
  · cases hjk : Nat.beq j k
    · have hs := hh.site j
      have e1 : ((st.killS k).site k x).s j = killSite [k] (st.s j) := by simp only [St.site, St.killS, hjk, cond_false]
      rw [e1]
      simp only [cond_false]
      cases hsj : st.s j with
      | no => rw [hsj] at hs; exact hs
      | box cs' =>
        rw [hsj] at hs
        obtain ⟨c, e, vals, h1, h2, h3, h4, h5⟩ := hs
        obtain ⟨q1, q2⟩ := hbj j c hjk h1
        exact ⟨c, e, vals, h1, by rw [hg.block c q1 (fun e => q2 e.symm)]; exact h2, h3, h4, fun j d hd => let ⟨v, hv, hr⟩ := h5 j d hd; ⟨v, hv, keep hr⟩⟩
      | tbox cs' =>
        rw [hsj] at hs
        obtain ⟨c, e, vals, h1, h2, h3, h5⟩ := hs
        obtain ⟨q1, q2⟩ := hbj j c hjk h1
        refine ⟨c, e, vals, h1, by rw [hg.block c q1 (fun e => q2 e.symm)]; exact h2, by simpa using h3, fun i y hy => ?_⟩
        rw [List.getElem?_map] at hy
        cases hi : cs'[i]? with
        | none => rw [hi] at hy; cases hy
        | some z =>
          rw [hi] at hy; cases hy
          obtain ⟨v, hv, ho, hr⟩ := h5 i z hi
          exact ⟨v, hv, ho, keepT hr⟩
      | mp es c =>
        rw [hsj] at hs
        obtain ⟨c', ms, c0, h1, h2, h3⟩ := hs
        obtain ⟨q1, q2⟩ := hbj j c' hjk h1
        exact ⟨c', ms, c0, h1, by rw [hg.block c' q1 (fun e => q2 e.symm)]; exact h2, h3.imp fun _ _ h => keep h⟩
      | row e sz es =>
        rw [hsj] at hs
        obtain ⟨h1, h2, h3⟩ := hs
        exact ⟨h1, h2, h3.imp id fun ⟨c, vals, cap, k1, k2, k3, k4, k5, k6, k7⟩ => by
          obtain ⟨q1, q2⟩ := hbj j c hjk k1
          exact ⟨c, vals, cap, k1, k2, k3, k4, by rw [hg.block c q1 (fun e => q2 e.symm)]; exact k5, k6, fun i x j d hi hj => let ⟨v, hv, hr⟩ := k7 i x j d hi hj; ⟨v, hv, keep hr⟩⟩⟩
    · have e1 : ((st.killS k).site k x).s j = x := by simp only [St.site, hjk, cond_true]
      rw [e1]
      simp only [cond_true]
      subst hxr
      refine hx.to (fun b hb h => hok b h.1 h.2.2) (.inl rfl) fun cs hcs => by cases hcs
  · exact keepT (hh.tmp t)
theorem mul_lt_of {i j sz m : Nat} (h1 : i < m) (h2 : j < sz) : i * sz + j < m * sz := by
  have : (i + 1) * sz ≤ m * sz := Nat.mul_le_mul_right _ h1
  rw [Nat.succ_mul] at this; omega
theorem aops_appendW {d k : Nat} {t e sz b m : Nat} {z : Value} {y x : Operand} {es news es' : List (List D)} (ht : slB P t e sz = true) (hz : zrB P e z) (hb : byB P e b = true) (hzs : z.cells.size = sz) (hs0 : 0 < sz) (hy : st.ev y = .rs k) (hk : st.s k = .row e sz es) 
    (hX : ∀ (a : Act) (w : World) (blk : Nat → Option Nat) (val : Nat → Value), Hold w0 st a w blk val → ∃ A cap, a.eval x = .slice A news.length cap ∧ news.length ≤ cap ∧ cap ≤ maxLen ∧ (∀ (i : Nat) (e : List D), news[i]? = some e → e.length = sz) ∧ (∀ (i : Nat) (e : List D) (j : Nat) (d : D), news[i]? = some e → e[j]? = some d → d.sc = true) ∧
      (news = [] ∨ ∃ (b off : Nat) (vs : Nat → Nat → Value), A = some ⟨b, off, none⟩ ∧ b < w.heap.size ∧ True ∧
      (∀ (i : Nat) (e : List D) (j : Nat) (d : D), news[i]? = some e → e[j]? = some d → w.cell? ⟨b, off + i * sz + j, none⟩ = some (vs i j)) ∧ ∀ (i : Nat) (e : List D) (j : Nat) (d : D), news[i]? = some e → e[j]? = some d → Rep w (okOf w0 blk) d (vs i j)))
    (hm : news.length = m) (hbm : (es.length + m) * b ≤ 140737488355328) (hmax : es.length + m ≤ 9223372036854775807) (hd : Nat.blt d st.n = true) (hes : es ++ news = es') (h : Aops P w0 ops rest R (((st.killS k).site k (.row e sz es')).put (some d) (.rs k))) :
    Aops P w0 ops (⟨some d, .call ⟨.builtin .append, #[y, x], #[t, t]⟩, ty, pos, after, none⟩ :: rest) R st := by
  subst hes
  subst hm
  refine aops_step (K := fun s => s = ((st.killS k).site k (.row e sz (es ++ news))).put (some d) (.rs k)) rfl (fun a w ⟨blk, val, hh⟩ => ?_) (fun _ e => e ▸ h)
  obtain ⟨i, hi, hsi⟩ := slB_info ht
  obtain ⟨i', hi', hbi⟩ := byB_info hb
  rw [hi] at hi'; cases hi'
  have h1 := hh.ev y
  rw [hy] at h1
  obtain ⟨_, hv⟩ := h1
  have h2 := hh.site k
  rw [hk] at h2
  obtain ⟨a1, a2, a3⟩ := h2
  obtain ⟨A, cap', hxv, hnx, hcapx, hxs, hxsc, hxr⟩ := hX a w blk val hh
  -- what the row holds
  have howns : ∃ xs : List Value, w.ownsRow 0 e sz (val k) es.length xs ∧ ∀ (i : Nat) (x : List D) (j : Nat) (d : D), es[i]? = some x → x[j]? = some d → ∃ v, xs[i * sz + j]? = some v ∧ Rep w (okOf w0 blk) d v := by
    rcases a3 with ⟨_, he, hval⟩ | ⟨bk, vals, cap, hbk, hval, hn, hcap, hheap, hvs, hc⟩
    · subst he
      exact ⟨[], ⟨by simp, .inl ⟨hval, rfl⟩⟩, fun i x j d hi => by simp at hi⟩
    · have hle : es.length * sz ≤ cap * sz := Nat.mul_le_mul_right _ hn
      refine ⟨vals.toList.take (es.length * sz), ⟨by simp; omega, .inr ⟨bk, cap, vals, hval, Nat.zero_le _, hheap, hn, hcap, hvs, rfl⟩⟩, fun i x j d hi hj => ?_⟩
      obtain ⟨v, hv, hr⟩ := hc i x j d hi hj
      have hil := (List.getElem?_eq_some_iff.1 hi).1
      have hjl : j < sz := by have := (List.getElem?_eq_some_iff.1 hj).1; rw [a1 i x hi] at this; exact this
      exact ⟨v, by rw [List.getElem?_take, if_pos (mul_lt_of hil hjl)]; simpa using hv, hr⟩
  obtain ⟨xs, hown, hxsr⟩ := howns
  have hvb : (val k).ownBlock = blk k := by
    rcases a3 with ⟨h0, _, hval⟩ | ⟨bk, vals, cap, hbk, hval, _⟩
    · rw [hval, h0]; rfl
    · rw [hval, hbk]; rfl
  have finish : ∀ (v' : Value) (w' : World) (nv : List Value), (Builtin.append_ #[t, t] ty #[val k, a.eval x]).run P w = .ok v' w' → w'.ownsRow 0 e sz v' (es.length + news.length) (xs ++ nv) → w.grownBy w' (blk k) →
      (v'.ownBlock = (val k).ownBlock ∨ v'.ownBlock = some w.heap.size) → (∀ (i : Nat) (x : List D) (j : Nat) (d : D), news[i]? = some x → x[j]? = some d → ∃ v, nv[i * sz + j]? = some v ∧ Rep w (okOf w0 blk) d v) →
      OW P w0 ⟨some d, .call ⟨.builtin .append, #[y, x], #[t, t]⟩, ty, pos, after, none⟩ a w (fun a' w' => ∃ st', st' = ((st.killS k).site k (.row e sz (es ++ news))).put (some d) (.rs k) ∧ Holds w0 st' a' w') := by
    intro v' w' nv hrun hown' hg hat hnv
    refine wp_value (v := v') (w' := w') (by
      have : (a.eval y) = val k := hv
      simp [execOp, resolve, invoke, builtin, this, hrun]) ⟨_, rfl, ?_⟩
    have hxl : xs.length = es.length * sz := hown.1
    have keep : ∀ {d : D} {v : Value}, Rep w (okOf w0 blk) d v → Rep w' (fun b => okOf w0 blk b ∧ v'.ownBlock ≠ some b ∧ b < w.heap.size) d v := fun h =>
      h.keep hg.size (fun b o h1 h2 => by rw [hg.block b (heap_lt h2) (fun e => h1.2 k e.symm)]; exact h2) fun b hb h => ⟨h, fun e => by
        rcases hat with e' | e'
        · rw [e', hvb] at e; exact h.2 k e
        · rw [e'] at e; cases e; omega, hb⟩
    have hsite : SiteIn w' (fun b => okOf w0 blk b ∧ v'.ownBlock ≠ some b ∧ b < w.heap.size) blk val st.s v'.ownBlock v' (.row e sz (es ++ news)) := by
      refine ⟨fun i x hx => ?_, fun i x j d hx hj => ?_, ?_⟩
      · rcases Nat.lt_or_ge i es.length with hlt | hge
        · rw [List.getElem?_append_left hlt] at hx; exact a1 i x hx
        · rw [List.getElem?_append_right hge] at hx; exact hxs _ x hx
      · rcases Nat.lt_or_ge i es.length with hlt | hge
        · rw [List.getElem?_append_left hlt] at hx; exact a2 i x j d hx hj
        · rw [List.getElem?_append_right hge] at hx; exact hxsc _ x j d hx hj
      · rcases hown'.2 with ⟨rfl, h0⟩ | ⟨g, cap, cur, rfl, hbg, hheap, hn, hcap, hcs, htake⟩
        · left
          have : (es ++ news).length = 0 := by rw [List.length_append]; exact h0
          exact ⟨rfl, List.length_eq_zero_iff.1 this, rfl⟩
        · right
          refine ⟨g, cur, cap, rfl, by rw [List.length_append], by rw [List.length_append]; exact hn, hcap, hheap, hcs, fun i x j d hi hj => ?_⟩
          have hxx : x.length = sz := by
            rcases Nat.lt_or_ge i es.length with hlt | hge
            · rw [List.getElem?_append_left hlt] at hi; exact a1 i x hi
            · rw [List.getElem?_append_right hge] at hi; exact hxs _ x hi
          have hjl : j < sz := by have := (List.getElem?_eq_some_iff.1 hj).1; omega
          have hil : i < es.length + news.length := by have := (List.getElem?_eq_some_iff.1 hi).1; rw [List.length_append] at this; exact this
          have hget : ∀ v, (xs ++ nv)[i * sz + j]? = some v → cur[i * sz + j]? = some v := fun v hv => by
            rw [← htake, List.getElem?_take, if_pos (mul_lt_of hil hjl)] at hv
            simpa using hv
          rcases Nat.lt_or_ge i es.length with hlt | hge
          · rw [List.getElem?_append_left hlt] at hi
            obtain ⟨v, hv, hr⟩ := hxsr i x j d hi hj
            have hq : i * sz + j < xs.length := by rw [hxl]; exact mul_lt_of hlt hjl
            exact ⟨v, hget v (by rw [List.getElem?_append_left hq]; exact hv), keep hr⟩
          · rw [List.getElem?_append_right hge] at hi
            obtain ⟨v, hv, hr⟩ := hnv _ x j d hi hj
            have hle : es.length * sz ≤ i * sz := Nat.mul_le_mul_right _ hge
            refine ⟨v, hget v ?_, keep hr⟩
            rw [List.getElem?_append_right (by omega), hxl, show i * sz + j - es.length * sz = (i - es.length) * sz + j by rw [Nat.sub_mul]; omega]
            exact hv
    have hH := hh.grow (k := k) (x := .row e sz (es ++ news)) (u := v') (nb := v'.ownBlock) hg (fun b hb => by
      rcases hown'.2 with ⟨rfl, _⟩ | ⟨g, cap, cur, rfl, hbg, hheap, _⟩
      · simp [Value.ownBlock] at hb
      · simp only [Value.ownBlock, Option.some.injEq] at hb
        subst hb
        refine ⟨?_, heap_lt hheap⟩
        rcases hat with e' | e'
        · rw [hvb] at e'; exact (hh.new k _ (e'.symm.trans rfl)).1
        · simp only [Value.ownBlock, Option.some.injEq] at e'
          rw [e']; exact .inl hh.ext.size) (fun b hb => by
      rcases hat with e' | e'
      · left; rw [← hvb, ← e']; exact hb
      · right; rw [e'] at hb; cases hb; exact Nat.le_refl _) hsite ⟨e, sz, _, rfl⟩ (by rw [hk]; rfl)
    exact ⟨_, _, put_hold hH (by simpa [Nat.blt_eq, St.site, St.killS] using hd) ⟨⟨e, sz, _, by simp [St.site]; rfl⟩, by simp⟩⟩
  rcases hxr with hnil | ⟨b', off, vs, hA, hb', hok', hc', hr'⟩
  · subst hnil
    cases A with
    | none =>
      simp only [List.length_nil] at hxv
      have hcap0 : cap' = 0 ∨ cap' ≠ 0 := by omega
      refine finish (val k) w [] ?_ (by simpa using hown) ⟨rfl, rfl, rfl, Nat.le_refl _, fun _ _ _ => rfl⟩ (.inl rfl) (fun i x j d hi => by simp at hi)
      rw [hxv]
      rcases hown.2 with ⟨hvk, h0⟩ | ⟨g, cap, cur, hvk, _, _, hnc, _⟩
      · rw [hvk]; simp [Builtin.append_, run_underlying (slB_under ht), sizeOf, my_typeInfo hi, Builtin.lenOf, Builtin.firstCells]
      · rw [hvk]; simp [Builtin.append_, run_underlying (slB_under ht), sizeOf, my_typeInfo hi, Builtin.lenOf, Builtin.firstCells, hnc, storeCells]
    | some ad =>
      obtain ⟨v', w', hrun, hown', hg, _, hat⟩ := run_append_own_at (P := P) w 0 t ty e i z sz b (slB_under ht) hi (zrB_info hz hi) hsi hbi hzs hs0 (val k) es.length xs hown ad 0 cap' [] (by simp) (fun j u hu => by simp at hu) (fun u hu => by cases hu) (by simp [maxLen] at hmax ⊢; omega) (by simpa using hbm) (Nat.zero_le _)
      simp only [List.length_nil] at hxv
      rw [← hxv] at hrun
      rw [hvb] at hg
      exact finish v' w' [] hrun (by simpa using hown') hg hat (fun i x j d hi => by simp at hi)
  · let nv : List Value := (List.range (news.length * sz)).map fun q => vs (q / sz) (q % sz)
    have hnvl : nv.length = news.length * sz := by simp [nv]
    have hnv : ∀ q u, nv[q]? = some u → ∃ x d, news[q / sz]? = some x ∧ x[q % sz]? = some d ∧ u = vs (q / sz) (q % sz) := fun q u hq => by
      have hql : q < news.length * sz := by have := (List.getElem?_eq_some_iff.1 hq).1; omega
      have hqd : q / sz < news.length := Nat.div_lt_of_lt_mul (by rw [Nat.mul_comm]; exact hql)
      have hx0 := List.getElem?_eq_getElem hqd
      have hqm : q % sz < (news[q / sz]).length := by rw [hxs _ _ hx0]; exact Nat.mod_lt _ hs0
      simp [nv, hql] at hq
      exact ⟨_, _, hx0, List.getElem?_eq_getElem hqm, hq.symm⟩
    obtain ⟨v', w', hrun, hown', hg, _, hat⟩ := run_append_own_at (P := P) w 0 t ty e i z sz b (slB_under ht) hi (zrB_info hz hi) hsi hbi hzs hs0 (val k) es.length xs hown ⟨b', off, none⟩ news.length cap' nv hnvl (fun q u hq => by
        obtain ⟨x, d, h1, h2, rfl⟩ := hnv q u hq
        have := hc' _ x _ d h1 h2
        rw [addr_add, show off + q = off + q / sz * sz + q % sz by have := Nat.div_add_mod q sz; rw [Nat.mul_comm] at this; omega]
        exact this) (fun u hu => by
        obtain ⟨q, hq⟩ := List.getElem?_of_mem hu
        obtain ⟨x, d, h1, h2, rfl⟩ := hnv q u hq
        exact (hr' _ x _ d h1 h2).one (hxsc _ x _ d h1 h2)) (by simp [maxLen]; omega) hbm (Nat.zero_le _)
    rw [← hA, ← hxv] at hrun
    rw [hvb] at hg
    refine finish v' w' nv hrun hown' hg hat fun i x j d hi hj => ?_
    have hil := (List.getElem?_eq_some_iff.1 hi).1
    have hjl : j < sz := by have := (List.getElem?_eq_some_iff.1 hj).1; rw [hxs i x hi] at this; exact this
    have hq : i * sz + j < news.length * sz := mul_lt_of hil hjl
    have e1 : (i * sz + j) / sz = i := by rw [Nat.add_comm, Nat.add_mul_div_right _ _ hs0, Nat.div_eq_of_lt hjl, Nat.zero_add]
    have e2 : (i * sz + j) % sz = j := by rw [Nat.add_comm, Nat.add_mul_mod_self_right, Nat.mod_eq_of_lt hjl]
    refine ⟨vs i j, ?_, hr' i x j d hi hj⟩
    simp [nv, hq, e1, e2]
theorem aops_append {d k : Nat} {t e sz b m : Nat} {z : Value} {y x : Operand} {es news es' : List (List D)} (ht : slB P t e sz = true) (hz : zrB P e z) (hb : byB P e b = true) (hzs : z.cells.size = sz) (hs0 : 0 < sz) (hy : st.ev y = .rs k) (hk : st.s k = .row e sz es) (hx : st.ev x = .d (.sl sz news))
    (hm : news.length = m) (hbm : (es.length + m) * b ≤ 140737488355328) (hmax : es.length + m ≤ 9223372036854775807) (hd : Nat.blt d st.n = true) (hes : es ++ news = es') (h : Aops P w0 ops rest R (((st.killS k).site k (.row e sz es')).put (some d) (.rs k))) :
    Aops P w0 ops (⟨some d, .call ⟨.builtin .append, #[y, x], #[t, t]⟩, ty, pos, after, none⟩ :: rest) R st :=
  aops_appendW ht hz hb hzs hs0 hy hk (fun a w blk val hh => by
    obtain ⟨A, cap, h1, h2, h3, h4, h5, h6⟩ := sl_inv (show Rep w _ (.sl sz news) (a.eval x) by have := hh.ev x; rw [hx] at this; exact this)
    exact ⟨A, cap, h1, h2, h3, h4, h5, h6.imp id fun ⟨b, off, vs, q1, q2, _, q4, q5⟩ => ⟨b, off, vs, q1, q2, trivial, q4, q5⟩⟩) hm hbm hmax hd hes h
end
open Go

section
variable {P : Program} {w0 : Cx} {ops : List Oper} {rest : List Oper} {R : Exit → St → Prop} {st : St} {ty : TypeId} {pos : String} {after : Array Edge}

end
section
variable {P : Program} {w0 : Cx} {n : Nat} {s : Nat → Site} {ev : Operand → T} {dst : Option Tmp} {ty : TypeId} {pos : String} {after : Array Edge} {g : Option (Nat × Bool)}
def iV (x : Int) : D := .v (.int .i64 x)
def iW (x : Int) : Value := .int .i64 x
def EqI (P : Program) (t m : Nat) : Prop := ∀ (xs ys : List Int), xs.length = m → ys.length = m → ∀ w,
  (∀ x y, (eqGuard .eql t x y (.agg (xs.map iW).toArray) (.agg (ys.map iW).toArray)).run P w = .ok () w) ∧ (∀ x y, (eqGuard .neq t x y (.agg (xs.map iW).toArray) (.agg (ys.map iW).toArray)).run P w = .ok () w) ∧
  (Op.equalIn 10000 t (.agg (xs.map iW).toArray) (.agg (ys.map iW).toArray)).run P w = .ok (decide (xs = ys)) w
theorem agg_ints {w : World} {ok : Nat → Prop} {xs : List Int} {v : Value} (h : Rep w ok (.agg (xs.map iV)) v) : v = .agg (xs.map iW).toArray := by
  obtain ⟨vs, rfl, hL, _⟩ := agg_inv h
  congr 2
  have : ∀ (xs : List Int) (vs : List Value), RepL w ok (xs.map iV) vs → vs = xs.map iW := by
    intro xs
    induction xs with
    | nil => intro vs h; cases vs with
      | nil => rfl
      | cons => exact h.elim
    | cons x xs ih =>
      intro vs h
      cases vs with
      | nil => exact h.elim
      | cons v vs =>
        obtain ⟨h1, h2⟩ := h
        rw [ih vs h2, Rep.v_eq h1]
        rfl
  exact this xs vs hL
theorem q_eqlI {t t' : TypeId} {x y : Operand} {m : Nat} {xs ys : List Int} (hE : EqI P t m) (hx : ev x = .d (.agg (xs.map iV))) (hy : ev y = .d (.agg (ys.map iV))) (hxl : xs.length = m) (hyl : ys.length = m) : QOp P w0 n s ev ⟨dst, .binOp .eql t x y t', ty, pos, after, g⟩ (T.bool (decide (xs = ys))) :=
  .mk fun a w ok blk val h _ hnew => by
    have e1 := agg_ints (show Rep w _ (.agg (xs.map iV)) (a.eval x) by have := h x; rw [hx] at this; exact this)
    have e2 := agg_ints (show Rep w _ (.agg (ys.map iV)) (a.eval y) by have := h y; rw [hy] at this; exact this)
    obtain ⟨g1, _, g3⟩ := hE xs ys hxl hyl w
    exact ⟨_, w, by simp only [execOp, e1, e2, Sem.run_bind, g1, Result.andThen_ok, run_eql_struct, g3]; rfl, Ext.refl w, .v _ rfl⟩
def bC (b : UInt8) : List D := [.v (.int .u8 (b.toNat : Int))]
theorem q_bytes {t t' e : TypeId} {y : Operand} {b : ByteArray} (h1 : isStr P t = true) (h2 : slB P t' e 1 = true) (h3 : intB P e .u8 = true) (hb : b.size ≤ 4611686018427387903) (hy : ev y = .d (.v (.string b))) : QOp P w0 n s ev ⟨dst, .convert t t' y, ty, pos, after, g⟩ (.d (.sl 1 (b.data.toList.map bC))) :=
  .mk fun a w ok blk val h _ hnew => by
    have hv : a.eval y = .string b := RepT.v_eq (hy ▸ h y)
    have hrun := Lib.run_convert_string_bytes (P := P) w t t' e b (isStr_under h1) (slB_under h2) (intB_under h3)
    have hE : Ext w (Lib.bytesWorld w e b) := ⟨rfl, rfl, rfl, by rw [Lib.bytesWorld_size]; omega, fun k hk => Lib.bytesWorld_at_old w e b k hk⟩
    refine ⟨_, Lib.bytesWorld w e b, by simp only [execOp, hv, Sem.run_bind, hrun]; rfl, hE, ?_⟩
    have hl : (b.data.toList.map bC).length = b.size := by simp
    have hg : b.size ≤ grownCap w b.size 0 e ∧ grownCap w b.size 0 e ≤ maxLen := by
      have := b.size
      simp only [grownCap, Question.cut, maxLen]
      have h5 : 0 < 2 ^ 63 - b.size := by omega
      have := Nat.mod_lt (w.tape w.drawn (.appendCap b.size 0 e)) h5
      omega
    have := Rep.sl (w := Lib.bytesWorld w e b) (ok := ok) 1 (b.data.toList.map bC) w.heap.size 0 (grownCap w b.size 0 e) (fun i _ => .int .u8 (b.data.toList.getD i 0).toNat) (by rw [Lib.bytesWorld_size]; omega) (hnew _ (Nat.le_refl _)) (by rw [hl]; exact hg.1) hg.2 (fun i x hx => by
        rw [List.getElem?_map] at hx
        cases hq : b.data.toList[i]? with
        | none => rw [hq] at hx; cases hx
        | some c => rw [hq] at hx; cases hx; rfl) (fun i x j d hx hd => by
        rw [List.getElem?_map] at hx
        cases hq : b.data.toList[i]? with
        | none => rw [hq] at hx; cases hx
        | some c =>
          rw [hq] at hx; cases hx
          cases j with
          | zero => simp [bC] at hd; subst hd; rfl
          | succ j => simp [bC] at hd) (fun i x j d hx hd => by
        rw [List.getElem?_map] at hx
        cases hq : b.data.toList[i]? with
        | none => rw [hq] at hx; cases hx
        | some c =>
          rw [hq] at hx; cases hx
          cases j with
          | zero =>
            have hi : i < b.size := by have := (List.getElem?_eq_some_iff.1 hq).1; simpa using this
            rw [Nat.zero_add, Nat.mul_one, Nat.add_zero]
            exact Lib.bytesWorld_cell w e b i hi
          | succ j => simp [bC] at hd) (fun i x j d hx hd => by
        rw [List.getElem?_map] at hx
        cases hq : b.data.toList[i]? with
        | none => rw [hq] at hx; cases hx
        | some c =>
          rw [hq] at hx; cases hx
          cases j with
          | zero =>
            simp [bC] at hd; subst hd
            rw [List.getD_eq_getElem?_getD, hq]
            exact .v _ rfl
          | succ j => simp [bC] at hd)
    rw [hl] at this
    exact this
end
open Go

def T.one : T → Bool
  | .d x => D.sc x
  | .rs _ => true
  | .ref _ _ => true
  | .own _ r _ _ => r.one
  | _ => false
section
variable {P : Program} {w0 : Cx} {ops : List Oper} {rest : List Oper} {R : Exit → St → Prop} {st : St} {ty : TypeId} {pos : String} {after : Array Edge}

theorem RepT.one {w : World} {ok : Nat → Prop} {blk : Nat → Option Nat} {val : Nat → Value} {s : Nat → Site} {x : T} {v : Value} (h : RepT w ok blk val s x v) (hs : ∀ k, SiteIn w ok blk val s (blk k) (val k) (s k)) (h1 : x.one = true) : v.oneCell' = true := by
  cases x with
  | d d => exact Rep.one (h : Rep w ok d v) h1
  | ref k o => obtain ⟨_, b, _, rfl⟩ := h; rfl
  | rs k =>
    obtain ⟨⟨e, sz, es, q⟩, rfl⟩ := h
    have := hs k
    rw [q] at this
    obtain ⟨_, _, h3⟩ := this
    rcases h3 with ⟨_, _, hv⟩ | ⟨_, _, _, _, hv, _⟩ <;> rw [hv] <;> rfl
  | un => cases h1
  | own k r f g => exact h.1.2 h1
  | dead => cases h1
def setTs (cs : List T) (o : Nat) (xs : List T) : List T := cs.take o ++ xs ++ cs.drop (o + xs.length)
theorem one_cells {v : Value} (h : v.oneCell' = true) : v.cells.toList = [v] := by cases v <;> first | rfl | cases h
end
section
variable {P : Program} {w0 : Cx} {n : Nat} {s : Nat → Site} {ev : Operand → T} {dst : Option Tmp} {ty : TypeId} {pos : String} {after : Array Edge} {g : Option (Nat × Bool)}
theorem q_load_tb {t : TypeId} {y : Operand} {m q o : Nat} {cs : List T} {x : T} (ht : szB P t false m = true) (hy : ev y = .ref q o) (hq : s q = .tbox cs) (hd : cs[o]? = some x) : QOp P w0 n s ev ⟨dst, .load t y, ty, pos, after, g⟩ x :=
  .mk fun a w ok blk val h hs hnew => by
    have h1 := h y
    rw [hy] at h1
    obtain ⟨_, b, hb, hv⟩ := h1
    have h2 := hs q
    rw [hq] at h2
    obtain ⟨b', e, vals, hb', hheap, hsz, hc⟩ := h2
    rw [hb] at hb'; cases hb'
    obtain ⟨v, hv0, _, hr⟩ := hc o x hd
    refine ⟨v, w, ?_, Ext.refl w, hr⟩
    have hcell : w.cell? ⟨b, o, none⟩ = some v := by rw [cell_of_block hheap]; exact hv0
    simp [execOp, hv, Instr.loadAt, Instr.sureAddr, loadVar, szB_agg ht, hcell]
end
open Go

def shiftT (f : Nat → Nat) : T → T
  | .ref k o => .ref (f k) o
  | .rs k => .rs (f k)
  | .own k r u v => .own (f k) r u v
  | x => x
def shiftS (f : Nat → Nat) : Site → Site
  | .tbox cs => .tbox (cs.map (shiftT f))
  | x => x
def getS (ss : List Site) (i : Nat) : Site := match ss, i with
  | [], _ => .no
  | x :: _, 0 => x
  | _ :: xs, i + 1 => getS xs i
def belowT (m : Nat) : T → Bool
  | .ref k _ => Nat.blt k m
  | .rs k => Nat.blt k m
  | .own k _ _ _ => Nat.blt k m
  | _ => true
def belowS (m : Nat) : Site → Bool
  | .tbox cs => cs.all (belowT m)
  | _ => true
def RepLT (w : World) (ok : Nat → Prop) (blk : Nat → Option Nat) (val : Nat → Value) (s : Nat → Site) : List T → List Value → Prop
  | [], [] => True
  | x :: xs, v :: vs => RepT w ok blk val s x v ∧ RepLT w ok blk val s xs vs
  | _, _ => False
def PCS (P : Program) (f : FuncId) (args : List T) (ss : List Site) (r : T) (ss' : List Site) : Prop :=
  ∀ (w : World) (ok : Nat → Prop) (blk : Nat → Option Nat) (val : Nat → Value) (vs : List Value),
    (∀ i b, blk i = some b → b < w.heap.size ∧ ¬ ok b) → (∀ i j b, blk i = some b → blk j = some b → i = j) → (∀ i, ss.length ≤ i → blk i = none) →
    (∀ i, SiteIn w ok blk val (getS ss) (blk i) (val i) (getS ss i)) → RepLT w ok blk val (getS ss) args vs →
    Calls P f vs.toArray w fun e w' => ∃ v blk' val', e = .returned v ∧ (∀ i, (getS ss i).isVar = true → blk' i = blk i) ∧ (∀ i b, blk' i = some b → (∃ j, blk j = some b) ∨ w.heap.size ≤ b) ∧ (∀ i b, blk' i = some b → b < w'.heap.size) ∧
      (∀ i j b, blk' i = some b → blk' j = some b → i = j) ∧ ExtM ⟨w, ok, fun b => ∃ i, blk i = some b, fun _ => none, fun _ => none, none⟩ w' ∧
      (∀ i, SiteIn w' (fun b => (ok b ∨ w.heap.size ≤ b) ∧ ∀ i, blk' i ≠ some b) blk' val' (getS ss') (blk' i) (val' i) (getS ss' i)) ∧
      RepT w' (fun b => (ok b ∨ w.heap.size ≤ b) ∧ ∀ i, blk' i ≠ some b) blk' val' (getS ss') r v

theorem getS_none {ss : List Site} : ∀ {i : Nat}, ss.length ≤ i → getS ss i = .no := by
  induction ss with
  | nil => intro i _; rfl
  | cons x xs ih => intro i h; cases i with
    | zero => simp at h
    | succ i => exact ih (by simpa using h)

section
variable {P : Program} {w0 : Cx} {st : St}

/- a function's contract from its body -/
def argTT : List T → Nat → T
  | [], _ => .un
  | x :: xs, k => match k with
    | 0 => x
    | k + 1 => argTT xs k
def inS (n : Nat) (ss : List Site) (k : Nat) : Site := bif Nat.ble n k then shiftS (n + ·) (getS ss (k - n)) else .no
def startS (n : Nat) (args : List T) (ss : List Site) : St := { n := n, t := fun k => argTT (args.map (shiftT (n + ·))) k, s := inS n ss }
def nth (ns : List Nat) (i : Nat) : Nat := match ns, i with
  | [], _ => 0
  | x :: _, 0 => x
  | _ :: xs, i + 1 => nth xs i
def SitesAt (st : St) (ns : List Nat) (ss : List Site) : Prop := ∀ i, i < ss.length → st.s (nth ns i) = shiftS (nth ns) (getS ss i)
def nodupN : List Nat → Bool
  | [] => true
  | x :: xs => !memN x xs && nodupN xs
def firstN (n : Nat) : Nat → Nat → List Nat → Bool
  | _, 0, _ => true
  | _, _ + 1, [] => false
  | i, m + 1, x :: xs => Nat.beq x (n + i) && firstN n (i + 1) m xs
theorem RepT.shift {w : World} {ok ok' : Nat → Prop} {blk blk' : Nat → Option Nat} {val val' : Nat → Value} {s s' : Nat → Site} {f : Nat → Nat} {x : T} {v : Value} (h : RepT w ok blk val s x v) (hok : ∀ b, b < w.heap.size → ok b → ok' b)
    (hk : ∀ k, (x = .rs k ∨ (∃ o, x = .ref k o) ∨ ∃ r f g, x = .own k r f g) → blk' (f k) = blk k ∧ val' (f k) = val k ∧ s' (f k) = shiftS f (s k)) : RepT w ok' blk' val' s' (shiftT f x) v := by
  cases x with
  | d x => exact Rep.ok (h : Rep w ok x v) hok
  | ref k o =>
    obtain ⟨q1, b, q2, q3⟩ := h
    obtain ⟨e1, _, e3⟩ := hk k (.inr (.inl ⟨o, rfl⟩))
    refine ⟨?_, b, by rw [e1]; exact q2, q3⟩
    rw [e3]
    cases hs : s k <;> simp [shiftS, hs] at q1 ⊢
  | rs k =>
    obtain ⟨⟨e, sz, es, q1⟩, q2⟩ := h
    obtain ⟨_, e2, e3⟩ := hk k (.inl rfl)
    exact ⟨⟨e, sz, es, by rw [e3, q1]; rfl⟩, by rw [e2]; exact q2⟩
  | own k r g1 g2 =>
    obtain ⟨⟨⟨q0, q1⟩, qo⟩, q2⟩ := h
    obtain ⟨e1, e2, e3⟩ := hk k (.inr (.inr ⟨r, g1, g2, rfl⟩))
    refine ⟨⟨⟨?_, fun hr => ?_⟩, qo⟩, by rw [e1, e2]; exact q2.imp fun _ _ h => Rep.ok h hok⟩
    · rw [e3]; cases hs : s k <;> simp [shiftS, hs] at q0 ⊢
    · obtain ⟨e, sz, es, q1⟩ := q1 hr
      exact ⟨e, sz, es, by rw [e3, q1]; rfl⟩
  | un => exact h
  | dead => trivial
theorem RepT.unshift {w : World} {ok ok' : Nat → Prop} {blk blk' : Nat → Option Nat} {val val' : Nat → Value} {s s' : Nat → Site} {f : Nat → Nat} {x : T} {v : Value} (h : RepT w ok blk val s (shiftT f x) v) (hok : ∀ b, b < w.heap.size → ok b → ok' b)
    (hk : ∀ k, (x = .rs k ∨ (∃ o, x = .ref k o) ∨ ∃ r f g, x = .own k r f g) → blk' k = blk (f k) ∧ val' k = val (f k) ∧ s (f k) = shiftS f (s' k)) : RepT w ok' blk' val' s' x v := by
  cases x with
  | d x => exact Rep.ok (h : Rep w ok x v) hok
  | ref k o =>
    obtain ⟨q1, b, q2, q3⟩ := h
    obtain ⟨e1, _, e3⟩ := hk k (.inr (.inl ⟨o, rfl⟩))
    refine ⟨fun hn => q1 (by rw [e3, hn]; rfl), b, by rw [e1]; exact q2, q3⟩
  | rs k =>
    obtain ⟨⟨e, sz, es, q1⟩, q2⟩ := h
    obtain ⟨_, e2, e3⟩ := hk k (.inl rfl)
    refine ⟨⟨e, sz, es, ?_⟩, by rw [e2]; exact q2⟩
    rw [e3] at q1
    cases hs : s' k <;> rw [hs] at q1 <;> simp [shiftS] at q1 ⊢
    exact q1
  | own k r g1 g2 =>
    obtain ⟨⟨⟨q0, q1⟩, qo⟩, q2⟩ := h
    obtain ⟨e1, e2, e3⟩ := hk k (.inr (.inr ⟨r, g1, g2, rfl⟩))
    refine ⟨⟨⟨fun hn => q0 (by rw [e3, hn]; rfl), fun hr => ?_⟩, qo⟩, by rw [e1, e2]; exact q2.imp fun _ _ h => Rep.ok h hok⟩
    obtain ⟨e, sz, es, q1⟩ := q1 hr
    rw [e3] at q1
    refine ⟨e, sz, es, ?_⟩
    cases hs : s' k <;> rw [hs] at q1 <;> simp [shiftS] at q1 ⊢
    exact q1
  | un => exact h
  | dead => trivial
theorem belowT_lt {m : Nat} {x : T} (h : belowT m x = true) : ∀ k, (x = .rs k ∨ (∃ o, x = .ref k o) ∨ ∃ r f g, x = .own k r f g) → k < m := by
  intro k hk
  rcases hk with rfl | ⟨o, rfl⟩ | ⟨_, _, _, rfl⟩ <;> simpa [belowT, Nat.blt_eq] using h
theorem SiteIn.shift {w : World} {ok ok' : Nat → Prop} {blk blk' : Nat → Option Nat} {val val' : Nat → Value} {s s' : Nat → Site} {f : Nat → Nat} {b : Option Nat} {u : Value} {x : Site} (h : SiteIn w ok blk val s b u x) (hok : ∀ b, b < w.heap.size → ok b → ok' b)
    (hk : ∀ cs, x = .tbox cs → ∀ y ∈ cs, ∀ k, (y = .rs k ∨ (∃ o, y = .ref k o) ∨ ∃ r f g, y = .own k r f g) → blk' (f k) = blk k ∧ val' (f k) = val k ∧ s' (f k) = shiftS f (s k)) : SiteIn w ok' blk' val' s' b u (shiftS f x) := by
  cases x with
  | no => exact h
  | box cs =>
    obtain ⟨b, e, vals, h1, h2, h3, h4, h5⟩ := h
    exact ⟨b, e, vals, h1, h2, h3, h4, fun j d hd => let ⟨v, hv, hr⟩ := h5 j d hd; ⟨v, hv, hr.ok hok⟩⟩
  | tbox cs =>
    obtain ⟨b, e, vals, h1, h2, h3, h5⟩ := h
    refine ⟨b, e, vals, h1, h2, by simpa using h3, fun j y hy => ?_⟩
    rw [List.getElem?_map] at hy
    cases hj : cs[j]? with
    | none => rw [hj] at hy; cases hy
    | some z =>
      rw [hj] at hy; cases hy
      obtain ⟨v, hv, ho, hr⟩ := h5 j z hj
      exact ⟨v, hv, ho, hr.shift hok (hk cs rfl z (List.mem_of_getElem? hj))⟩
  | mp es c => obtain ⟨b, ms, c0, h1, h2, h3⟩ := h; exact ⟨b, ms, c0, h1, h2, h3.imp fun _ _ h => h.ok hok⟩
  | row e sz es =>
    obtain ⟨h1, h2, h3⟩ := h
    exact ⟨h1, h2, h3.imp id fun ⟨b, vals, cap, k1, k2, k3, k4, k5, k6, k7⟩ => ⟨b, vals, cap, k1, k2, k3, k4, k5, k6, fun i x j d hi hj => let ⟨v, hv, hr⟩ := k7 i x j d hi hj; ⟨v, hv, hr.ok hok⟩⟩⟩
theorem SiteIn.unshift {w : World} {ok ok' : Nat → Prop} {blk blk' : Nat → Option Nat} {val val' : Nat → Value} {s s' : Nat → Site} {f : Nat → Nat} {b : Option Nat} {u : Value} {x : Site} (h : SiteIn w ok blk val s b u (shiftS f x)) (hok : ∀ b, b < w.heap.size → ok b → ok' b)
    (hk : ∀ cs, x = .tbox cs → ∀ y ∈ cs, ∀ k, (y = .rs k ∨ (∃ o, y = .ref k o) ∨ ∃ r f g, y = .own k r f g) → blk' k = blk (f k) ∧ val' k = val (f k) ∧ s (f k) = shiftS f (s' k)) : SiteIn w ok' blk' val' s' b u x := by
  cases x with
  | no => exact h
  | box cs =>
    obtain ⟨b, e, vals, h1, h2, h3, h4, h5⟩ := h
    exact ⟨b, e, vals, h1, h2, h3, h4, fun j d hd => let ⟨v, hv, hr⟩ := h5 j d hd; ⟨v, hv, hr.ok hok⟩⟩
  | tbox cs =>
    obtain ⟨b, e, vals, h1, h2, h3, h5⟩ := h
    refine ⟨b, e, vals, h1, h2, by simpa using h3, fun j z hz => ?_⟩
    obtain ⟨v, hv, ho, hr⟩ := h5 j (shiftT f z) (by rw [List.getElem?_map, hz]; rfl)
    exact ⟨v, hv, ho, hr.unshift hok (hk cs rfl z (List.mem_of_getElem? hz))⟩
  | mp es c => obtain ⟨b, ms, c0, h1, h2, h3⟩ := h; exact ⟨b, ms, c0, h1, h2, h3.imp fun _ _ h => h.ok hok⟩
  | row e sz es =>
    obtain ⟨h1, h2, h3⟩ := h
    exact ⟨h1, h2, h3.imp id fun ⟨b, vals, cap, k1, k2, k3, k4, k5, k6, k7⟩ => ⟨b, vals, cap, k1, k2, k3, k4, k5, k6, fun i x j d hi hj => let ⟨v, hv, hr⟩ := k7 i x j d hi hj; ⟨v, hv, hr.ok hok⟩⟩⟩
theorem RepLT.length {w : World} {ok : Nat → Prop} {blk : Nat → Option Nat} {val : Nat → Value} {s : Nat → Site} : ∀ {xs : List T} {vs : List Value}, RepLT w ok blk val s xs vs → vs.length = xs.length
  | [], [], _ => rfl
  | _ :: _, _ :: _, h => by simp [h.2.length]
  | [], _ :: _, h => h.elim
  | _ :: _, [], h => h.elim
theorem argTT_rep {w : World} {ok ok' : Nat → Prop} {blk blk' : Nat → Option Nat} {val val' : Nat → Value} {s s' : Nat → Site} {f : Nat → Nat} (m : Nat) (hok : ∀ b, b < w.heap.size → ok b → ok' b) (hk : ∀ k, blk' (f k) = blk k ∧ val' (f k) = val k ∧ s' (f k) = shiftS f (s k)) :
    ∀ {xs : List T} {vs : List Value}, RepLT w ok blk val s xs vs → ∀ k, RepT w ok' blk' val' s' (argTT (xs.map (shiftT f)) k) ((vs ++ List.replicate m undef).getD k undef)
  | [], [], _, k => by
    show _ = _
    rw [List.nil_append, List.getD_eq_getElem?_getD, List.getElem?_replicate]
    split <;> rfl
  | x :: xs, v :: vs, h, 0 => h.1.shift hok fun k _ => hk k
  | x :: xs, v :: vs, h, k + 1 => by
    have := argTT_rep (blk' := blk') (val' := val') (s' := s') m hok hk h.2 k
    simpa [argTT] using this
  | [], _ :: _, h, _ => h.elim
  | _ :: _, [], h, _ => h.elim
theorem nth_firstN {n : Nat} : ∀ {m i : Nat} {ns : List Nat}, firstN n i m ns = true → ∀ j, j < m → nth ns j = n + (i + j)
  | 0, _, _, _, j, h => by omega
  | _ + 1, _, [], h, _, _ => by simp [firstN] at h
  | m + 1, i, x :: xs, h, j, hj => by
    simp only [firstN, Bool.and_eq_true] at h
    cases j with
    | zero => simpa [nth] using Nat.eq_of_beq_eq_true h.1
    | succ j =>
      have := nth_firstN h.2 j (by omega)
      simp only [nth]; omega
theorem nth_mem {ns : List Nat} : ∀ {i : Nat}, i < ns.length → memN (nth ns i) ns = true := by
  induction ns with
  | nil => intro i h; simp at h
  | cons x xs ih =>
    intro i h
    cases i with
    | zero => simp [nth, memN]
    | succ i => simp only [nth, memN, Bool.or_eq_true]; exact .inr (ih (by simpa using h))
theorem nth_inj {ns : List Nat} (h : nodupN ns = true) : ∀ {i j : Nat}, i < ns.length → j < ns.length → nth ns i = nth ns j → i = j := by
  induction ns with
  | nil => intro i j h; simp at h
  | cons x xs ih =>
    simp only [nodupN, Bool.and_eq_true, Bool.not_eq_true'] at h
    intro i j hi hj e
    cases i with
    | zero =>
      cases j with
      | zero => rfl
      | succ j =>
        simp only [nth] at e
        have := nth_mem (ns := xs) (i := j) (by simpa using hj)
        rw [← e, h.1] at this; cases this
    | succ i =>
      cases j with
      | zero =>
        simp only [nth] at e
        have := nth_mem (ns := xs) (i := i) (by simpa using hi)
        rw [e, h.1] at this; cases this
      | succ j => simp only [nth] at e; rw [ih h.2 (by simpa using hi) (by simpa using hj) e]

/- the call -/
def idxN (k : Nat) : List Nat → Option Nat
  | [] => none
  | x :: xs => bif Nat.beq k x then some 0 else (idxN k xs).map (· + 1)
theorem idxN_some {k : Nat} : ∀ {ks : List Nat} {i : Nat}, idxN k ks = some i → i < ks.length ∧ nth ks i = k
  | [], _, h => by cases h
  | x :: xs, i, h => by
    simp only [idxN] at h
    cases hb : Nat.beq k x with
    | true => rw [hb] at h; cases h; exact ⟨by simp, (Nat.eq_of_beq_eq_true hb).symm⟩
    | false =>
      rw [hb] at h
      simp only [cond_false, Option.map_eq_some_iff] at h
      obtain ⟨j, hj, rfl⟩ := h
      obtain ⟨h1, h2⟩ := idxN_some hj
      exact ⟨by simpa using h1, h2⟩
theorem idxN_nth {ks : List Nat} (h : nodupN ks = true) {i : Nat} (hi : i < ks.length) : idxN (nth ks i) ks = some i := by
  cases hk : idxN (nth ks i) ks with
  | none =>
    have hm := nth_mem hi
    exfalso
    have : ∀ (ks : List Nat) (k : Nat), memN k ks = true → idxN k ks ≠ none := by
      intro ks
      induction ks with
      | nil => intro k h; cases h
      | cons x xs ih =>
        intro k h
        simp only [memN, Bool.or_eq_true] at h
        simp only [idxN]
        cases hb : Nat.beq k x with
        | true => simp
        | false =>
          rw [hb] at h
          have := ih k (h.resolve_left (by simp))
          simp only [cond_false, ne_eq, Option.map_eq_none_iff]; exact this
    exact this _ _ hm hk
  | some j =>
    obtain ⟨h1, h2⟩ := idxN_some hk
    rw [nth_inj h h1 hi h2]
def rowsOf (ks : List Nat) : List Site → Nat → List Nat
  | [], _ => []
  | .row _ _ _ :: xs, i => nth ks i :: rowsOf ks xs (i + 1)
  | _ :: xs, i => rowsOf ks xs (i + 1)
def afterS (st : St) (ks : List Nat) (rows : List Nat) (ss' : List Site) : St :=
  { n := st.n
    t := fun t => killT rows (st.t t)
    s := fun k => match idxN k ks with | some i => shiftS (nth ks) (getS ss' i) | none => killSite rows (st.s k) }
inductive ArgsS (ev : Operand → T) (f : Nat → Nat) : List Operand → List T → Prop
  | nil : ArgsS ev f [] []
  | cons {y : Operand} {ys : List Operand} {x : T} {xs : List T} (h : ev y = shiftT f x) (hs : ArgsS ev f ys xs) : ArgsS ev f (y :: ys) (x :: xs)
theorem argsS_rep {ev : Operand → T} {f : Nat → Nat} {a : Act} {w : World} {ok ok' : Nat → Prop} {blk blk' : Nat → Option Nat} {val val' : Nat → Value} {s s' : Nat → Site} {m : Nat} (hy : ∀ y, RepT w ok blk val s (ev y) (a.eval y)) (hok : ∀ b, b < w.heap.size → ok b → ok' b)
    (hk : ∀ k, k < m → blk' k = blk (f k) ∧ val' k = val (f k) ∧ s (f k) = shiftS f (s' k)) : ∀ {ys : List Operand} {xs : List T}, ArgsS ev f ys xs → xs.all (belowT m) = true → RepLT w ok' blk' val' s' xs (ys.map a.eval)
  | _, _, .nil, _ => trivial
  | _, _, .cons (y := y) h hs, hb => by
    simp only [List.all_cons, Bool.and_eq_true] at hb
    refine ⟨?_, argsS_rep hy hok hk hs hb.2⟩
    have := hy y
    rw [h] at this
    exact this.unshift hok fun k hkk => hk k (belowT_lt hb.1 k hkk)
def callOk (ks : List Nat) (args : List T) (ss : List Site) (r : T) (ss' : List Site) : Bool :=
  nodupN ks && Nat.beq ks.length ss'.length && Nat.ble ss.length ss'.length && args.all (belowT ss.length) && ss.all (belowS ss.length) && belowT ss'.length r && ss'.all (belowS ss'.length)
def kindOk : List Site → List Site → Bool
  | [], _ => true
  | _ :: _, [] => false
  | .box _ :: xs, y :: ys => y.isVar && kindOk xs ys
  | .tbox _ :: xs, y :: ys => y.isVar && kindOk xs ys
  | .mp _ _ :: xs, y :: ys => y.isVar && kindOk xs ys
  | .row _ _ _ :: xs, .row _ _ _ :: ys => kindOk xs ys
  | _, _ => false
theorem kindOk_at : ∀ {ss ss' : List Site}, kindOk ss ss' = true → ∀ i, i < ss.length → ((getS ss i).isVar = true ∧ (getS ss' i).isVar = true) ∨ ((∃ e sz es, getS ss i = .row e sz es) ∧ ∃ e sz es, getS ss' i = .row e sz es)
  | [], _, _, i, hi => by simp at hi
  | _ :: _, [], h, _, _ => by simp [kindOk] at h
  | x :: xs, y :: ys, h, i, hi => by
    cases i with
    | zero =>
      cases x <;> cases y <;> simp [kindOk, Site.isVar] at h <;> simp [getS, Site.isVar]
    | succ i =>
      have : kindOk xs ys = true := by
        cases x <;> cases y <;> simp [kindOk, Site.isVar] at h <;> exact h
      exact kindOk_at this i (by simpa using hi)
def FlatT : T → Prop
  | .d d => d.Flat
  | .own _ _ ds _ => FlatAll ds
  | _ => True
def FlatS : Site → Prop
  | .box cs => ∀ d ∈ cs, d.Flat
  | .tbox cs => ∀ x ∈ cs, FlatT x
  | .row _ _ es => ∀ x ∈ es, ∀ d ∈ x, D.Flat d
  | .mp es _ => ∀ d ∈ es.map (fun p => p.2), d.Flat
  | .no => True
theorem RepT.flat {w : World} {ok ok' : Nat → Prop} {blk : Nat → Option Nat} {val : Nat → Value} {s : Nat → Site} {x : T} {v : Value} (h : RepT w ok blk val s x v) (hf : FlatT x) : RepT w ok' blk val s x v := by
  cases x with
  | d d => exact Rep.flat h hf
  | own k r ds F =>
    obtain ⟨h0, vs, h1, h2⟩ := h
    exact ⟨h0, vs, RepL.of h1.length fun j d v hd hv => (h1.get j d v hd hv).flat (FlatAll.mem hf d (List.mem_of_getElem? hd)), h2⟩
  | _ => exact h
theorem RepL.flat {w : World} {ok ok' : Nat → Prop} : ∀ {ds : List D} {vs : List Value}, RepL w ok ds vs → (∀ d ∈ ds, d.Flat) → RepL w ok' ds vs
  | [], [], _, _ => trivial
  | _ :: _, _ :: _, h, hf => ⟨h.1.flat (hf _ (by simp)), RepL.flat h.2 fun d hd => hf d (by simp [hd])⟩
  | [], _ :: _, h, _ => h.elim
  | _ :: _, [], h, _ => h.elim
theorem SiteIn.flat {w : World} {ok ok' : Nat → Prop} {blk : Nat → Option Nat} {val : Nat → Value} {s : Nat → Site} {b : Option Nat} {u : Value} {x : Site} (h : SiteIn w ok blk val s b u x) (hf : FlatS x) : SiteIn w ok' blk val s b u x := by
  cases x with
  | no => exact h
  | box cs =>
    obtain ⟨b, e, vals, h1, h2, h3, h4, h5⟩ := h
    exact ⟨b, e, vals, h1, h2, h3, h4, fun j d hd => let ⟨v, hv, hr⟩ := h5 j d hd; ⟨v, hv, hr.flat (hf d (List.mem_of_getElem? hd))⟩⟩
  | tbox cs =>
    obtain ⟨b, e, vals, h1, h2, h3, h5⟩ := h
    exact ⟨b, e, vals, h1, h2, h3, fun j y hy => let ⟨v, hv, ho, hr⟩ := h5 j y hy; ⟨v, hv, ho, hr.flat (hf y (List.mem_of_getElem? hy))⟩⟩
  | mp es c => obtain ⟨b, ms, c0, h1, h2, h3⟩ := h; exact ⟨b, ms, c0, h1, h2, h3.1, RepL.flat h3.2 hf⟩
  | row e sz es =>
    obtain ⟨h1, h2, h3⟩ := h
    exact ⟨h1, h2, h3.imp id fun ⟨b, vals, cap, k1, k2, k3, k4, k5, k6, k7⟩ => ⟨b, vals, cap, k1, k2, k3, k4, k5, k6, fun i x j d hi hj => let ⟨v, hv, hr⟩ := k7 i x j d hi hj; ⟨v, hv, hr.flat (hf x (List.mem_of_getElem? hi) d (List.mem_of_getElem? hj))⟩⟩⟩
theorem flatS_at : ∀ {ss : List Site}, (∀ x ∈ ss, FlatS x) → ∀ i, FlatS (getS ss i)
  | [], _, i => trivial
  | x :: xs, h, 0 => h x (by simp)
  | x :: xs, h, i + 1 => flatS_at (ss := xs) (fun y hy => h y (by simp [hy])) i
theorem aops_callW {ops rest : List Oper} {R : Exit → St → Prop} {ty : TypeId} {pos : String} {after : Array Edge} {dst : Option Tmp} {f : FuncId} {ys : List Operand} {at_ : Array TypeId} {args : List T} {ss ss' : List Site} {r : T} (ks rows : List Nat)
    (he : enB P f = true) (hr : PCS P f args ss r ss') (hc : callOk ks args ss r ss' = true) (hkd : kindOk ss ss' = true) (hrows : rowsOf ks ss 0 = rows)
    (hold : ∀ i, i < ss.length → st.s (nth ks i) = shiftS (nth ks) (getS ss i)) (hnew : ∀ i, ss.length ≤ i → i < ss'.length → st.s (nth ks i) = .no) (hd : (match dst with | none => true | some d => Nat.blt d st.n) = true)
    (hA : ∀ (a : Act) (w : World) (blk : Nat → Option Nat) (val : Nat → Value), Hold w0 st a w blk val → ∃ okA : Nat → Prop, (∀ b, okOf w0 blk b → okA b) ∧ (∀ i b, i < ss.length → blk (nth ks i) = some b → ¬ okA b) ∧
      RepLT w okA (fun i => if i < ss.length then blk (nth ks i) else none) (fun i => val (nth ks i)) (getS ss) args (ys.map a.eval) ∧ ((∀ b, okA b → okOf w0 blk b) ∨ ((∀ x ∈ ss', FlatS x) ∧ FlatT r)))
    (h : Aops P w0 ops rest R ((afterS st ks rows ss').put dst (shiftT (nth ks) r))) : Aops P w0 ops (⟨dst, .call ⟨.value (.func f), ys.toArray, at_⟩, ty, pos, after, none⟩ :: rest) R st := by
  subst hrows
  simp only [callOk, Bool.and_eq_true] at hc
  obtain ⟨⟨⟨⟨⟨⟨hnd, hkl⟩, hle⟩, hba⟩, hbs⟩, hbr⟩, hbs'⟩ := hc
  have hkl := Nat.eq_of_beq_eq_true hkl
  have hle := Nat.le_of_ble_eq_true hle
  refine aops_step (K := fun s => s = (afterS st ks (rowsOf ks ss 0) ss').put dst (shiftT (nth ks) r)) rfl (fun a w ⟨blk, val, hh⟩ => ?_) (fun _ e => e ▸ h)
  have hbelow : ∀ (ss : List Site) (m i : Nat), ss.all (belowS m) = true → belowS m (getS ss i) = true := by
    intro ss
    induction ss with
    | nil => intro m i _; rfl
    | cons x xs ih =>
      intro m i h
      simp only [List.all_cons, Bool.and_eq_true] at h
      cases i with
      | zero => exact h.1
      | succ i => exact ih m i h.2
  obtain ⟨okA, hA1, hA2, hA3, hA4⟩ := hA a w blk val hh
  let blkC : Nat → Option Nat := fun i => if i < ss.length then blk (nth ks i) else none
  let valC : Nat → Value := fun i => val (nth ks i)
  have hrel : ∀ k, k < ss.length → blkC k = blk (nth ks k) ∧ valC k = val (nth ks k) ∧ st.s (nth ks k) = shiftS (nth ks) (getS ss k) := fun k hk => ⟨if_pos hk, rfl, hold k hk⟩
  have hbC : ∀ i b, blkC i = some b → i < ss.length ∧ blk (nth ks i) = some b := fun i b h => by
    simp only [blkC] at h
    split at h
    · exact ⟨by assumption, h⟩
    · cases h
  have hcall := hr w okA blkC valC (ys.map a.eval) (fun i b h => ⟨(hh.new _ _ (hbC i b h).2).2, hA2 i b (hbC i b h).1 (hbC i b h).2⟩)
    (fun i j b h1 h2 => nth_inj hnd (by have := (hbC i b h1).1; omega) (by have := (hbC j b h2).1; omega) (hh.inj _ _ b (hbC i b h1).2 (hbC j b h2).2)) (fun i hi => if_neg (by omega)) (fun i => by
      rcases Nat.lt_or_ge i ss.length with hi | hi
      · have h1 := hh.site (nth ks i)
        rw [hold i hi] at h1
        rw [(hrel i hi).1]
        refine h1.unshift (fun b _ h => hA1 b h) fun cs hcs y hy k hk => ?_
        have h2 := hbelow ss ss.length i hbs
        rw [hcs] at h2
        exact hrel k (belowT_lt (List.all_eq_true.1 h2 y hy) k hk)
      · rw [getS_none hi]; exact if_neg (by omega)) hA3
  refine ow_of_wp (fun c hc => by cases hc) ?_
  unfold Oper.wp
  rw [run_callValue (f := f) (cap := #[]) rfl rfl he]
  have harr : ((ys.map a.eval).toArray : Array Value) = ys.toArray.map a.eval ++ #[] := by simp
  rw [harr] at hcall
  refine hcall.mono ?_
  rintro e w' ⟨v, blk', val', rfl, c1, c2, c4, c5, c6, hsites, hres⟩
  let blkN : Nat → Option Nat := fun k => match idxN k ks with | some i => blk' i | none => blk k
  let valN : Nat → Value := fun k => match idxN k ks with | some i => val' i | none => val k
  have hnN : ∀ i, i < ss'.length → blkN (nth ks i) = blk' i ∧ valN (nth ks i) = val' i := fun i hi => by
    have := idxN_nth hnd (i := i) (by omega)
    simp only [blkN, valN, this]
    exact ⟨trivial, trivial⟩
  have mineK : ∀ k b, idxN k ks = none → blk k = some b → ¬ ∃ i, blkC i = some b := fun k b hk hb ⟨i, hi⟩ => by
    have e := hh.inj _ _ b hb (hbC i b hi).2
    subst e
    rw [idxN_nth hnd (by have := (hbC i b hi).1; omega)] at hk; cases hk
  have hNb : ∀ k b, blkN k = some b → (idxN k ks = none ∧ blk k = some b) ∨ ∃ i, idxN k ks = some i ∧ blk' i = some b := fun k b h => by
    simp only [blkN] at h
    cases hk : idxN k ks with
    | none => rw [hk] at h; exact .inl ⟨rfl, h⟩
    | some i => rw [hk] at h; exact .inr ⟨i, rfl, h⟩
  have hokN : ∀ b, b < w.heap.size → okOf w0 blk b → okOf w0 blkN b := fun b hb h => ⟨h.1, fun k hk => by
    rcases hNb k b hk with ⟨_, h1⟩ | ⟨i, _, h1⟩
    · exact h.2 k h1
    · rcases c2 i b h1 with ⟨j, hj⟩ | h2
      · exact h.2 _ (hbC j b hj).2
      · omega⟩
  have hokR : (∀ b, okA b → okOf w0 blk b) → ∀ b, b < w'.heap.size → ((okA b ∨ w.heap.size ≤ b) ∧ ∀ i, blk' i ≠ some b) → okOf w0 blkN b := fun hq b _ h => by
    have h : (okOf w0 blk b ∨ w.heap.size ≤ b) ∧ ∀ i, blk' i ≠ some b := ⟨h.1.imp (hq b) id, h.2⟩
    refine ⟨h.1.elim (fun q => q.1) fun q => .inr (Nat.le_trans hh.ext.size q), fun k hk => ?_⟩
    rcases hNb k b hk with ⟨_, h1⟩ | ⟨i, _, h1⟩
    · rcases h.1 with q | q
      · exact q.2 k h1
      · have := (hh.new k b h1).2; omega
    · exact h.2 i h1
  have hsites : ∀ i, SiteIn w' (okOf w0 blkN) blk' val' (getS ss') (blk' i) (val' i) (getS ss' i) := fun i => by
    rcases hA4 with q | ⟨q, _⟩
    · exact (hsites i).okw (hokR q)
    · exact (hsites i).flat (flatS_at q i)
  have hres : RepT w' (okOf w0 blkN) blk' val' (getS ss') r v := by
    rcases hA4 with q | ⟨_, q⟩
    · exact hres.ok' (hokR q)
    · exact hres.flat q
  have keepB : ∀ b o, okOf w0 blk b → w.heap[b]? = some o → w'.heap[b]? = some o := fun b o hok ho => by
    rw [c6.block b (heap_lt ho) (fun ⟨i, hi⟩ => hok.2 _ (hbC i b hi).2)]; exact ho
  have keep : ∀ {d : D} {u : Value}, Rep w (okOf w0 blk) d u → Rep w' (okOf w0 blkN) d u := fun h => h.keep c6.size keepB fun b hb h => hokN b hb h
  -- a site that was handed in, as the caller names it
  have inKs : ∀ j i, idxN j ks = some i → nth ks i = j ∧ i < ss'.length := fun j i h => by
    obtain ⟨h1, h2⟩ := idxN_some h
    exact ⟨h2, by omega⟩
  have keepT : ∀ {y : T} {u : Value}, RepT w (okOf w0 blk) blk val st.s y u → RepT w' (okOf w0 blkN) blkN valN (afterS st ks (rowsOf ks ss 0) ss').s (killT (rowsOf ks ss 0) y) u := by
    have rowIn : ∀ (ss : List Site) (i j : Nat), j < ss.length → (∃ e sz es, getS ss j = .row e sz es) → memN (nth ks (i + j)) (rowsOf ks ss i) = true := by
      intro ss
      induction ss with
      | nil => intro i j h; simp at h
      | cons x xs ih =>
        intro i j hj hrow
        cases j with
        | zero =>
          obtain ⟨e, sz, es, hx⟩ := hrow
          simp only [getS] at hx
          subst hx
          simp [rowsOf, memN]
        | succ j =>
          have := ih (i + 1) j (by simpa using hj) hrow
          rw [show i + 1 + j = i + (j + 1) by omega] at this
          cases x <;> simp only [rowsOf, memN] <;> first | exact this | (rw [this]; simp)
    intro y u h
    cases y with
    | d y => exact keep h
    | ref k o =>
      simp only [killT]
      cases hkr : memN k (rowsOf ks ss 0) with
      | true => simp only [if_true]; trivial
      | false =>
        simp only [Bool.false_eq_true, if_false]
        obtain ⟨q1, b, q2, q3⟩ := h
        cases hk : idxN k ks with
        | none =>
          exact ⟨by simp only [afterS, hk]; exact killSite_row.1 q1, b, by simp only [blkN, hk]; exact q2, q3⟩
        | some i =>
          obtain ⟨e1, e2⟩ := inKs k i hk
          have him : i < ss.length := by
            rcases Nat.lt_or_ge i ss.length with h | h
            · exact h
            · exact absurd (by rw [← e1]; exact hnew i h e2) q1
          rcases kindOk_at hkd i him with ⟨v1, v2⟩ | ⟨v1, _⟩
          · refine ⟨?_, b, ?_, q3⟩
            · simp only [afterS, hk]
              cases hg : getS ss' i <;> rw [hg] at v2 <;> first | (cases v2; done) | simp [shiftS]
            · simp only [blkN, hk]
              rw [c1 i v1, (hrel i him).1, e1]; exact q2
          · have := rowIn ss 0 i him v1
            rw [Nat.zero_add, e1, hkr] at this; cases this
    | rs k =>
      simp only [killT]
      cases hkr : memN k (rowsOf ks ss 0) with
      | true => simp only [if_true]; trivial
      | false =>
        simp only [Bool.false_eq_true, if_false]
        obtain ⟨q1, q3⟩ := h
        cases hk : idxN k ks with
        | none => exact ⟨by simp only [afterS, hk]; exact killSite_row.2 q1, by simp only [valN, hk]; exact q3⟩
        | some i =>
          obtain ⟨e1, e2⟩ := inKs k i hk
          obtain ⟨e, sz, es, q1⟩ := q1
          have him : i < ss.length := by
            rcases Nat.lt_or_ge i ss.length with h | h
            · exact h
            · have := hnew i h e2; rw [e1, q1] at this; cases this
          have hr : ∃ e sz es, getS ss i = .row e sz es := by
            have := hold i him
            rw [e1, q1] at this
            cases hg : getS ss i <;> rw [hg] at this <;> simp [shiftS] at this ⊢
          have := rowIn ss 0 i him hr
          rw [Nat.zero_add, e1, hkr] at this; cases this
    | own k r g1 g2 =>
      simp only [killT]
      cases hkr : memN k (rowsOf ks ss 0) with
      | true => simp only [if_true]; trivial
      | false =>
        simp only [Bool.false_eq_true, if_false]
        obtain ⟨⟨⟨q0, q1⟩, qo⟩, q3⟩ := h
        cases hk : idxN k ks with
        | none => exact ⟨⟨⟨by simp only [afterS, hk]; exact killSite_row.1 q0, fun hr => by simp only [afterS, hk]; exact killSite_row.2 (q1 hr)⟩, qo⟩, by simp only [valN, blkN, hk]; exact q3.imp fun _ _ h => keep h⟩
        | some i =>
          obtain ⟨e1, e2⟩ := inKs k i hk
          have him : i < ss.length := by
            rcases Nat.lt_or_ge i ss.length with h | h
            · exact h
            · exact absurd (by rw [← e1]; exact hnew i h e2) q0
          cases hrr : r.row with
          | true =>
            obtain ⟨e, sz, es, q1⟩ := q1 hrr
            have hr : ∃ e sz es, getS ss i = .row e sz es := by
              have := hold i him
              rw [e1, q1] at this
              cases hg : getS ss i <;> rw [hg] at this <;> simp [shiftS] at this ⊢
            have := rowIn ss 0 i him hr
            rw [Nat.zero_add, e1, hkr] at this; cases this
          | false =>
            rcases kindOk_at hkd i him with ⟨v1, v2⟩ | ⟨v1, _⟩
            · refine ⟨⟨⟨?_, fun hr => by rw [hrr] at hr; cases hr⟩, qo⟩, ?_⟩
              · simp only [afterS, hk]
                cases hg : getS ss' i <;> rw [hg] at v2 <;> first | (cases v2; done) | simp [shiftS]
              · simp only [blkN, hk, hrr, cond_false] at q3 ⊢
                rw [c1 i v1, (hrel i him).1, e1]; exact q3.imp fun _ _ h => keep h
            · have := rowIn ss 0 i him v1
              rw [Nat.zero_add, e1, hkr] at this; cases this
    | un => exact h
    | dead => trivial
  have relN : ∀ k, k < ss'.length → blkN (nth ks k) = blk' k ∧ valN (nth ks k) = val' k ∧ (afterS st ks (rowsOf ks ss 0) ss').s (nth ks k) = shiftS (nth ks) (getS ss' k) := fun k hk => by
    obtain ⟨h1, h2⟩ := hnN k hk
    refine ⟨h1, h2, ?_⟩
    simp only [afterS, idxN_nth hnd (i := k) (by omega)]
  have hH : Hold w0 (afterS st ks (rowsOf ks ss 0) ss') a w' blkN valN := by
    refine ⟨⟨c6.os.trans hh.ext.os, c6.tape.trans hh.ext.tape, c6.output.trans hh.ext.output, Nat.le_trans hh.ext.size c6.size, fun k hk hm => ?_⟩, hh.kept fun j hj hn => c6.block j hj (fun ⟨i, hi⟩ => hn _ (hbC i j hi).2), hh.size, fun k b hb => ?_, fun i j b hi hj => ?_, fun k b hp => ?_, fun k => ?_, fun t => keepT (hh.tmp t)⟩
    · have hk' : k < w.heap.size := Nat.lt_of_lt_of_le hk hh.ext.size
      have e := c6.block k hk' (fun ⟨i, hi⟩ => by
        rcases (hh.new _ _ (hbC i k hi).2).1 with q | q
        · omega
        · exact hm q)
      exact e.trans (hh.ext.block k hk hm)
    · rcases hNb k b hb with ⟨_, h1⟩ | ⟨i, _, h1⟩
      · exact ⟨(hh.new k b h1).1, Nat.lt_of_lt_of_le (hh.new k b h1).2 c6.size⟩
      · refine ⟨?_, c4 i b h1⟩
        rcases c2 i b h1 with ⟨j, hj⟩ | h2
        · exact (hh.new _ _ (hbC j b hj).2).1
        · exact .inl (Nat.le_trans hh.ext.size h2)
    · rcases hNb i b hi with ⟨n1, h1⟩ | ⟨i', n1, h1⟩ <;> rcases hNb j b hj with ⟨n2, h2⟩ | ⟨j', n2, h2⟩
      · exact hh.inj i j b h1 h2
      · rcases c2 j' b h2 with ⟨q, hq⟩ | h3
        · exact absurd ⟨q, hq⟩ (mineK i b n1 h1)
        · have := (hh.new i b h1).2; omega
      · rcases c2 i' b h1 with ⟨q, hq⟩ | h3
        · exact absurd ⟨q, hq⟩ (mineK j b n2 h2)
        · have := (hh.new j b h2).2; omega
      · have := c5 i' j' b h1 h2
        subst this
        rw [← (inKs i i' n1).1, (inKs j i' n2).1]
    · obtain ⟨q1, q2, q3⟩ := hh.pin k b hp
      cases hk : idxN k ks with
      | none =>
        refine ⟨by simp only [blkN, hk]; exact q1, ?_, q3⟩
        simp only [afterS, hk]
        cases hs : st.s k <;> rw [hs] at q2 <;> first | (cases q2; done) | rfl
      | some i =>
        obtain ⟨e1, e2⟩ := inKs k i hk
        have him : i < ss.length := by
          rcases Nat.lt_or_ge i ss.length with h | h
          · exact h
          · have := hnew i h e2; rw [e1] at this; rw [this] at q2; cases q2
        rcases kindOk_at hkd i him with ⟨v1, v2⟩ | ⟨⟨e, sz, es, v1⟩, _⟩
        · refine ⟨by simp only [blkN, hk]; rw [c1 i v1, (hrel i him).1, e1]; exact q1, ?_, q3⟩
          simp only [afterS, hk]
          cases hg : getS ss' i <;> rw [hg] at v2 <;> first | (cases v2; done) | rfl
        · have := hold i him
          rw [e1, v1] at this
          rw [this] at q2; cases q2
    · cases hk : idxN k ks with
      | some i =>
        obtain ⟨e1, e2⟩ := inKs k i hk
        have h1 := hsites i
        obtain ⟨n1, n2, n3⟩ := relN i e2
        rw [e1] at n1 n2 n3
        rw [n1, n2, n3]
        refine h1.shift (fun _ _ h => h) fun cs hcs y hy j hj => ?_
        have h2 := hbelow ss' ss'.length i hbs'
        rw [hcs] at h2
        exact relN j (belowT_lt (List.all_eq_true.1 h2 y hy) j hj)
      | none =>
        have hs := hh.site k
        have e0 : (afterS st ks (rowsOf ks ss 0) ss').s k = killSite (rowsOf ks ss 0) (st.s k) := by simp only [afterS, hk]
        have e1 : blkN k = blk k := by simp only [blkN, hk]
        have e2 : valN k = val k := by simp only [valN, hk]
        rw [e0, e1, e2]
        have hbk : ∀ c, blk k = some c → w'.heap[c]? = w.heap[c]? := fun c hc => c6.block c (hh.new k c hc).2 (mineK k c hk hc)
        cases hsk : st.s k with
        | no => rw [hsk] at hs; exact hs
        | box cs' =>
          rw [hsk] at hs
          obtain ⟨c, e, vals, h1, h2, h3, h4, h5⟩ := hs
          exact ⟨c, e, vals, h1, by rw [hbk c h1]; exact h2, h3, h4, fun j d hd => let ⟨v, hv, hr⟩ := h5 j d hd; ⟨v, hv, keep hr⟩⟩
        | tbox cs' =>
          rw [hsk] at hs
          obtain ⟨c, e, vals, h1, h2, h3, h5⟩ := hs
          refine ⟨c, e, vals, h1, by rw [hbk c h1]; exact h2, by simpa using h3, fun i y hy => ?_⟩
          rw [List.getElem?_map] at hy
          cases hi : cs'[i]? with
          | none => rw [hi] at hy; cases hy
          | some z =>
            rw [hi] at hy; cases hy
            obtain ⟨v, hv, ho, hr⟩ := h5 i z hi
            exact ⟨v, hv, ho, keepT hr⟩
        | mp es c =>
          rw [hsk] at hs
          obtain ⟨c', ms, c0, h1, h2, h3⟩ := hs
          exact ⟨c', ms, c0, h1, by rw [hbk c' h1]; exact h2, h3.imp fun _ _ h => keep h⟩
        | row e sz es =>
          rw [hsk] at hs
          obtain ⟨h1, h2, h3⟩ := hs
          exact ⟨h1, h2, h3.imp id fun ⟨c, vals, cap, k1, k2, k3, k4, k5, k6, k7⟩ => ⟨c, vals, cap, k1, k2, k3, k4, by rw [hbk c k1]; exact k5, k6, fun i x j d hi hj => let ⟨v, hv, hr⟩ := k7 i x j d hi hj; ⟨v, hv, keep hr⟩⟩⟩
  refine ⟨_, rfl, blkN, valN, hH.put dst _ v (fun d hd' => ?_) (hres.shift (fun _ _ h => h) fun k hk => relN k (belowT_lt hbr k hk))⟩
  subst hd'
  simpa [Nat.blt_eq, afterS] using hd
end
open Go

section
variable {P : Program} {w0 : Cx} {ops : List Oper} {rest : List Oper} {R : Exit → St → Prop} {st : St} {ty : TypeId} {pos : String} {after : Array Edge}
def holdS (st : St) (f : Nat → Nat) : List Nat → List Site → Prop
  | _, [] => True
  | [], _ :: _ => False
  | k :: ks, x :: xs => st.s k = shiftS f x ∧ holdS st f ks xs
def newS (st : St) : List Nat → List Site → List Site → Prop
  | _, _, [] => True
  | [], _, _ :: _ => True
  | _ :: ks, _ :: xs, _ :: ys => newS st ks xs ys
  | k :: ks, [], _ :: ys => st.s k = .no ∧ newS st ks [] ys
theorem holdS.spec {f : Nat → Nat} : ∀ {ks : List Nat} {ss : List Site}, holdS st f ks ss → ∀ i, i < ss.length → st.s (nth ks i) = shiftS f (getS ss i)
  | _, [], _, i, hi => by simp at hi
  | [], _ :: _, h, _, _ => h.elim
  | k :: ks, x :: xs, h, 0, _ => h.1
  | k :: ks, x :: xs, h, i + 1, hi => holdS.spec h.2 i (by simpa using hi)
theorem newS.spec : ∀ {ks : List Nat} {ss ss' : List Site}, ks.length = ss'.length → newS st ks ss ss' → ∀ i, ss.length ≤ i → i < ss'.length → st.s (nth ks i) = .no
  | _, _, [], _, _, i, _, hi => by simp at hi
  | [], _, _ :: _, hl, _, _, _, _ => by simp at hl
  | _ :: ks, _ :: xs, _ :: ys, hl, h, i, h1, h2 => by
    cases i with
    | zero => simp at h1
    | succ i => exact newS.spec (ks := ks) (ss := xs) (ss' := ys) (by simpa using hl) h i (by simpa using h1) (by simpa using h2)
  | k :: ks, [], _ :: ys, hl, h, i, h1, h2 => by
    cases i with
    | zero => exact h.1
    | succ i => exact newS.spec (ks := ks) (ss := []) (ss' := ys) (by simpa using hl) h.2 i (by simp) (by simpa using h2)
end
open Go

section
variable {P : Program} {w0 : Cx} {ops : List Oper} {rest : List Oper} {R : Exit → St → Prop} {st : St} {dst : Option Tmp} {ty : TypeId} {pos : String} {after : Array Edge}

theorem Hold.same {a : Act} {w : World} {blk : Nat → Option Nat} {val : Nat → Value} (t : Nat) (ht : t < st.n) (hh : Hold w0 st (a.put (some t) (a.tmps.getD t undef)) w blk val) : Hold w0 st a w blk val := by
  have : a.put (some t) (a.tmps.getD t undef) = a := by
    have hs : t < a.tmps.size := by have := hh.size; simp [Act.put] at this; omega
    cases a with
    | mk tmps defers =>
      simp only [Act.put, Act.mk.injEq, and_true]
      simp only at hs
      rw [Array.getD_eq_getD_getElem?, Array.getElem?_eq_getElem hs]
      refine Array.ext (by simp) fun i h1 h2 => ?_
      simp only [Option.getD_some, Array.getElem_setIfInBounds h2]
      split
      · rename_i e; subst e; rfl
      · rfl
  rw [this] at hh; exact hh
theorem le_freeze (k t o : Nat) {cs : List D} (hs : st.s k = .box cs) (ht : st.t t = .ref k o) (hk : Nat.blt k st.n = true) (htn : Nat.blt t st.n = true) (hm : ∀ b, w0.mine b → w0.ok b) : Le w0 st ((headSt st [k] [] []).put (some t) (.d (.pt cs o))) := by
  intro a w ⟨blk, val, hh⟩
  have hH : Hold w0 (headSt st [k] [] []) a w (headBlk [k] [] blk) val := hold_headW (ms := []) (Out.refl st) (by simp) (by simp) (by intro k h; cases h) (by intro p h; cases h) rfl (by simpa using hk) hh
  have h1 := hh.tmp t
  rw [ht] at h1
  obtain ⟨_, b, hb, hv⟩ := h1
  have h2 := hh.site k
  rw [hs] at h2
  obtain ⟨b', e, vals, hb', hheap, hsz, hsc, hc⟩ := h2
  rw [hb] at hb'; cases hb'
  have hok : ∀ c, okOf w0 blk c → okOf w0 (headBlk [k] [] blk) c := fun c ⟨q1, q2⟩ => ⟨q1, fun j hj => by
    simp only [headBlk, lookN] at hj
    cases hm : memN j [k] <;> rw [hm] at hj
    · exact q2 j hj
    · cases hj⟩
  have hokb : okOf w0 (headBlk [k] [] blk) b := by
    refine ⟨(hh.new k b hb).1.elim .inr (fun h => .inl (hm b h)), fun j hj => ?_⟩
    simp only [headBlk, lookN] at hj
    cases hmj : memN j [k] <;> rw [hmj] at hj
    · have := hh.inj j k b hj hb
      subst this
      simp [memN] at hmj
    · cases hj
  rw [Nat.blt_eq] at htn
  refine ⟨_, _, Hold.same t htn (put_hold (v := a.tmps.getD t undef) hH htn ?_)⟩
  show Rep w _ (.pt cs o) _
  have := Rep.pt (w := w) (ok := okOf w0 (headBlk [k] [] blk)) cs o b 0 (fun j => vals.getD j undef) (heap_lt hheap) hokb hsc (fun j d hj => by
    obtain ⟨v, h1, h2⟩ := hc j d hj
    rw [cell_of_block hheap]
    simp [Array.getD_eq_getD_getElem?, h1]) (fun j d hj => by
    obtain ⟨v, h1, h2⟩ := hc j d hj
    simp only [Array.getD_eq_getD_getElem?, h1]
    exact h2.ok fun _ _ h => hok _ h)
  rw [hv]
  simpa using this

theorem Out.headIn {ts ts' ms : List Nat} {s s0 : St} {sl : List (Nat × T)} {ss : List (Nat × Site)} (hO : Out ts ms s s0) (h : ts'.all (fun t => memN t ts) = true) (h1 : keysIn ts sl = true) (h2 : keysIn (ts ++ ms) ss = true) : Out ts ms (headSt s ts' sl ss) s0 := by
  have hin : ∀ t, memN t ts' = true → memN t ts = true := fun t ht => memN_all ht h
  have hne : ∀ t, memN t ts = false → memN t ts' = false := fun t ht => by
    rw [← Bool.not_eq_true]; intro e; rw [hin t e] at ht; cases ht
  have hk : ∀ ks : List Nat, (∀ j, memN j ks = true → memN j ts = true) → ∀ j, memN j (ks ++ ts') = true → memN j ts = true := fun ks hks j hj => by
    rw [memN_app, Bool.or_eq_true] at hj
    rcases hj with hj | hj
    · exact hks j hj
    · exact hin j hj
  refine ⟨hO.n, fun t ht => ?_, fun t ht hm => ?_⟩
  · obtain ⟨ks, hks, e⟩ := hO.t t ht
    exact ⟨ks ++ ts', hk ks hks, by simp only [headSt, keysIn_none ht h1, hne t ht, cond_false]; rw [e, killT_app]⟩
  · obtain ⟨ks, hks, e⟩ := hO.s t ht hm
    have hn : memN t (ts ++ ms) = false := by rw [memN_app, ht, hm]; rfl
    exact ⟨ks ++ ts', hk ks hks, by simp only [headSt, keysIn_none hn h2, hne t ht, cond_false]; rw [e, killSite_app]⟩

structure CellsT (w : World) (ok : Nat → Prop) (blk : Nat → Option Nat) (val : Nat → Value) (s : Nat → Site) (cs : List T) (vs : List Value) : Prop where
  len : vs.length = cs.length
  at_ : ∀ (j : Nat) (x : T), cs[j]? = some x → ∃ v, vs[j]? = some v ∧ v.oneCell' = true ∧ RepT w ok blk val s x v
theorem CellsT.of {w : World} {ok : Nat → Prop} {blk : Nat → Option Nat} {val : Nat → Value} {s : Nat → Site} {cs : List D} {vs : List Value} (h : RepL w ok cs vs) (hs : scAll cs) : CellsT w ok blk val s (cs.map T.d) vs :=
  ⟨by rw [List.length_map]; exact h.length, fun j x hx => by
    rw [List.getElem?_map] at hx
    cases hj : cs[j]? with
    | none => rw [hj] at hx; cases hx
    | some d =>
      rw [hj] at hx; cases hx
      obtain ⟨v, hv, hr⟩ := h.at_ hj
      exact ⟨v, hv, hr.one (hs d (List.mem_of_getElem? hj)), hr⟩⟩
theorem CellsT.set {w : World} {ok : Nat → Prop} {blk : Nat → Option Nat} {val : Nat → Value} {s : Nat → Site} {cs xs : List T} {vs us : List Value} {o : Nat} (h : CellsT w ok blk val s cs vs) (h' : CellsT w ok blk val s xs us) (ho : o + xs.length ≤ cs.length) :
    CellsT w ok blk val s (setTs cs o xs) (vs.take o ++ us ++ vs.drop (o + us.length)) := by
  have h1 := h.len
  have h2 := h'.len
  refine ⟨by simp [setTs]; omega, fun j z hz => ?_⟩
  rcases splice_get (by omega) hz with ⟨q1, q⟩ | ⟨q1, q2, q⟩ | ⟨q1, q⟩
  · obtain ⟨v, hv, r⟩ := h.at_ j z q
    exact ⟨v, splice_put (by omega) (.inl ⟨q1, hv⟩), r⟩
  · obtain ⟨v, hv, r⟩ := h'.at_ _ z q
    exact ⟨v, splice_put (by omega) (.inr (.inl ⟨q1, by omega, hv⟩)), r⟩
  · obtain ⟨v, hv, r⟩ := h.at_ j z q
    exact ⟨v, splice_put (by omega) (.inr (.inr ⟨by omega, hv⟩)), r⟩
def fillT (pl : Nat → Option (Nat × Nat)) (cs : List T) : List (Nat × List T) → List T
  | [] => cs
  | (i, xs) :: ps => match pl i with
    | some (off, _) => fillT pl (setTs cs off xs) ps
    | none => []
def fillTOk (pl : Nat → Option (Nat × Nat)) (m : Nat) : List (Nat × List T) → Prop
  | [] => True
  | (i, xs) :: ps => (match pl i with | some (off, sz) => xs.length = sz ∧ off + sz ≤ m | none => False) ∧ fillTOk pl m ps
inductive PartsT (ev : Operand → T) : List (Nat × Operand) → List (Nat × List T) → Prop
  | nil : PartsT ev [] []
  | one {i : Nat} {y : Operand} {ys : List (Nat × Operand)} {x : T} {xs : List (Nat × List T)} (h : ev y = x) (hx : x.one = true) (hs : PartsT ev ys xs) : PartsT ev ((i, y) :: ys) ((i, [x]) :: xs)
  | agg {i : Nat} {y : Operand} {ys : List (Nat × Operand)} {cs : List D} {xs : List (Nat × List T)} (h : ev y = .d (.agg cs)) (hs : PartsT ev ys xs) : PartsT ev ((i, y) :: ys) ((i, cs.map T.d) :: xs)
theorem setTs_length {cs xs : List T} {o : Nat} (h : o + xs.length ≤ cs.length) : (setTs cs o xs).length = cs.length := by
  simp [setTs]; omega
theorem fill_repT {w : World} {blk : Nat → Option Nat} {val : Nat → Value} {a : Act} {ok : Nat → Prop} {s : Nat → Site} {ev : Operand → T} (hev : ∀ y, RepT w ok blk val s (ev y) (a.eval y)) (hsite : ∀ k, SiteIn w ok blk val s (blk k) (val k) (s k)) {pl : Nat → Option (Nat × Nat)} : ∀ {ys : List (Nat × Operand)} {xs : List (Nat × List T)} {cs : List T} {cells : Array Value}, PartsT ev ys xs → CellsT w ok blk val s cs cells.toList → fillTOk pl cs.length xs →
    ∃ out, Instr.fill pl cells (ys.map fun (i, y) => (i, a.eval y)) = some out ∧ CellsT w ok blk val s (fillT pl cs xs) out.toList := by
  have step : ∀ {ys : List (Nat × Operand)} {xs : List (Nat × List T)} {cs : List T} {cells : Array Value} {i : Nat} {y : Operand} {z : List T}, CellsT w ok blk val s z (a.eval y).cells.toList → CellsT w ok blk val s cs cells.toList → fillTOk pl cs.length ((i, z) :: xs) →
      (∀ {cs : List T} {cells : Array Value}, CellsT w ok blk val s cs cells.toList → fillTOk pl cs.length xs → ∃ out, Instr.fill pl cells (ys.map fun (i, y) => (i, a.eval y)) = some out ∧ CellsT w ok blk val s (fillT pl cs xs) out.toList) →
      ∃ out, Instr.fill pl cells (((i, y) :: ys).map fun (i, y) => (i, a.eval y)) = some out ∧ CellsT w ok blk val s (fillT pl cs ((i, z) :: xs)) out.toList := by
    intro ys xs cs cells i y z hz hc hok ih
    obtain ⟨h1, h2⟩ := hok
    cases hp : pl i with
    | none => simp only [hp] at h1
    | some os =>
      obtain ⟨off, sz⟩ := os
      simp only [hp] at h1
      have hlen := hz.len
      have hcl := hc.len
      simp only [Array.length_toList] at hlen hcl
      have hsp := fold_splice off (a.eval y).cells.toList 0 cells (by simp; omega)
      simp only [Nat.add_zero, Array.length_toList] at hsp
      have hfold : ((a.eval y).cells.zipIdx.foldl (fun cs (x : Value × Nat) => cs.setIfInBounds (off + x.2) x.1) cells) = (((a.eval y).cells.toList.zipIdx 0).foldl (fun cs (x : Value × Nat) => cs.setIfInBounds (off + x.2) x.1) cells) := by
        rw [← Array.foldl_toList]; simp
      obtain ⟨out, k1, k2⟩ := ih (cs := setTs cs off z) (cells := ((a.eval y).cells.zipIdx.foldl (fun cs (x : Value × Nat) => cs.setIfInBounds (off + x.2) x.1) cells)) (by
        rw [hfold, hsp]
        have := hc.set hz (o := off) (by omega)
        simpa using this) (by rw [setTs_length (by omega)]; exact h2)
      refine ⟨out, ?_, by simpa [fillT, hp] using k2⟩
      simp only [List.map_cons, Instr.fill, hp]
      rw [if_neg (by simp; omega)]
      exact k1
  intro ys xs cs cells hp
  induction hp generalizing cs cells with
  | nil => exact fun hc _ => ⟨cells, rfl, hc⟩
  | one h hx hs ih =>
    rename_i i y ys x xs
    intro hc hok
    have hr : RepT w ok blk val s x (a.eval y) := h ▸ hev y
    have h1 := hr.one hsite hx
    refine step ⟨by rw [one_cells h1]; rfl, fun j u hu => ?_⟩ hc hok fun hc' hok' => ih hc' hok'
    rw [one_cells h1]
    cases j with
    | zero => simp at hu; subst hu; exact ⟨_, rfl, h1, hr⟩
    | succ j => simp at hu
  | agg h hs ih =>
    rename_i i y ys ds xs
    intro hc hok
    have hr : Rep w ok (.agg ds) (a.eval y) := by have := hev y; rw [h] at this; exact this
    obtain ⟨hL, hsc⟩ := cells_inv hr (.inr ⟨_, rfl⟩)
    exact step (CellsT.of hL fun d hd => by obtain ⟨j, hj⟩ := List.getElem?_of_mem hd; exact hsc j d hj) hc hok fun hc' hok' => ih hc' hok'
theorem run_build {g : Option (Nat × Bool)} {t : TypeId} {pl : List (Nat × Nat)} {z : Value} {parts : List (Nat × Operand)} {ev : Operand → Value} {out : Array Value} {w : World} (hp : plB P t pl = true) (hz : zrB P t z) (hf : Instr.fill (pl[·]?) z.cells (parts.map fun (i, y) => (i, ev y)) = some out) :
    (execOp ev ⟨dst, .build t parts.toArray, ty, pos, after, g⟩).run P w = .ok (.value (.agg out)) w := by
  unfold plB at hp
  cases hu : P.underlying t with
  | none => simp [hu] at hp
  | some d =>
    cases d <;> simp only [hu, Bool.false_eq_true] at hp
    rename_i fs
    simp only [Bool.and_eq_true, beq_iff_eq] at hp
    have hm : (fs.mapM fun f => (do pure (f.offset, ← sizeOf f.type) : Sem (Nat × Nat))).run P w = .ok pl.toArray w := by
      rw [← hp.1]
      have := run_places (P := P) w fs.toList hp.2
      have he : (fun f : Field => (do pure (f.offset, ← sizeOf f.type) : Sem (Nat × Nat))) = fun f => Functor.map (Prod.mk f.offset) (sizeOf f.type) := by funext f; rw [← bind_pure_comp]
      rw [he]
      conv => lhs; rw [← Array.toArray_toList (xs := fs)]
      rw [List.mapM_toArray]
      simp [this]
    have hpl : (fun i => (pl.toArray[i]? : Option (Nat × Nat))) = (fun i : Nat => pl[i]?) := by funext i; simp
    simp only [execOp, Instr.build, Sem.run_bind, run_zero hz, Result.andThen_ok, run_underlying hu, hm]
    have : (parts.toArray.map fun (x : Nat × Operand) => (x.1, ev x.2)).toList = parts.map fun (i, y) => (i, ev y) := by simp
    rw [this]
    simp only [hpl, hf]
    simp
theorem aops_buildbox {d d1 : Nat} {t e : TypeId} {pl : List (Nat × Nat)} {z : Value} {parts : List (Nat × Operand)} {pds : List (Nat × List T)} {cs : List T} {ty' : TypeId} {pos' : String} {after' : Array Edge}
    (hp : plB P t pl = true) (hz : zrB P t z) (h1 : z.cells.toList.all Value.oneCell' = true) (hpd : PartsT st.ev parts pds) (hok : fillTOk (pl[·]?) (constD z).length pds) (hcs : fillT (pl[·]?) ((constD z).map T.d) pds = cs)
    (hd1 : Nat.blt d1 st.n = true) (hd : Nat.blt d st.n = true) (hs : st.s d = .no)
    (h : Aops P w0 ops rest R (((st.put (some d1) .dead).site d (.tbox cs)).put (some d) (.ref d 0))) :
    Aops P w0 ops (⟨some d1, .build t parts.toArray, ty, pos, after, none⟩ :: ⟨some d, .box e (.tmp d1), ty', pos', after', none⟩ :: rest) R st := by
  subst hcs
  intro F m hF a w ⟨blk, val, hh⟩
  rw [Nat.blt_eq] at hd1 hd
  obtain ⟨hz1, hz2⟩ := constD_rep (w := w) (ok := okOf w0 blk) h1
  obtain ⟨out, k1, k2⟩ := fill_repT hh.ev hh.site (pl := (pl[·]?)) (cells := z.cells) hpd (CellsT.of hz1 hz2) (by rw [List.length_map]; exact hok)
  unfold wpListIn
  rw [if_pos (by simp [Region.wanted])]
  refine (wp_value (v := .agg out) (w' := w) (run_build hp hz k1) (K := fun a' w' => a' = a.put (some d1) (.agg out) ∧ w' = w) ⟨rfl, rfl⟩).to hF ?_
  intro a2 w2 h2
  rw [h2.1, h2.2]
  unfold wpListIn
  rw [if_pos (by simp [Region.wanted])]
  have hs1 : d1 < a.tmps.size := by rw [hh.size]; exact hd1
  have hev : (a.put (some d1) (.agg out)).eval (.tmp d1) = .agg out := by simp [Act.eval, Act.put, hs1]
  have hE : Ext w (w.alloc (.cells out e)) := (Ext.refl w).alloc _
  refine (wp_value (v := .pointer (some ⟨w.heap.size, 0, none⟩)) (w' := w.alloc (.cells out e)) (by simp [execOp, Instr.box, newVar, newRow, hev, Value.cells]) (K := fun a' w' => a' = (a.put (some d1) (.agg out)).put (some d) (.pointer (some ⟨w.heap.size, 0, none⟩)) ∧ w' = w.alloc (.cells out e)) ⟨rfl, rfl⟩).to hF ?_
  intro a2 w2 h2
  rw [h2.1, h2.2]
  have hh1 : Hold w0 (st.put (some d1) .dead) (a.put (some d1) (.agg out)) w blk val := put_hold hh hd1 trivial
  have live : ∀ y ∈ fillT (pl[·]?) ((constD z).map T.d) pds, ∀ j, (y = .rs j ∨ (∃ o, y = .ref j o) ∨ ∃ r f g, y = .own j r f g) → st.s j ≠ .no := fun y hy j hj => by
    obtain ⟨q, hq⟩ := List.getElem?_of_mem hy
    obtain ⟨v, _, _, hr⟩ := k2.at_ q y hq
    rcases hj with rfl | ⟨o, rfl⟩ | ⟨_, _, _, rfl⟩
    · obtain ⟨⟨e, sz, es, q⟩, _⟩ := hr; rw [q]; simp
    · exact hr.1
    · exact hr.1.1.1
  have hH := hh1.allocSite (k := d) (x := .tbox (fillT (pl[·]?) ((constD z).map T.d) pds)) (u := undef) (o := .cells out e) hs ⟨w.heap.size, e, out, rfl, new_block _ _, by have := k2.len; simpa using this, fun j x hx => by
      obtain ⟨v, hv, ho, hr⟩ := k2.at_ j x hx
      exact ⟨v, by simpa using hv, ho, ((hr.ok' (ok' := fun b => okOf w0 blk b ∧ b ≠ w.heap.size) fun b hb h => ⟨h, by omega⟩).ext hE)⟩⟩
    (fun cs hcs y hy j hj => by cases hcs; exact live y hy j hj)
  exact h F m hF _ _ ⟨_, _, put_hold hH (by simpa [St.site, St.put] using hd) ⟨by simp [St.site], w.heap.size, by simp, rfl⟩⟩
end
section
variable {P : Program} {w0 : Cx} {n : Nat} {s : Nat → Site} {ev : Operand → T} {dst : Option Tmp} {ty : TypeId} {pos : String} {after : Array Edge} {g : Option (Nat × Bool)}
end
section
variable {P : Program} {w0 : Cx} {n : Nat} {s : Nat → Site} {ev : Operand → T} {dst : Option Tmp} {ty : TypeId} {pos : String} {after : Array Edge} {g : Option (Nat × Bool)}
theorem q_eqnil_sl {t t' e' sz : TypeId} {x : Operand} {es : List (List D)} (ht : slB P t e' sz = true) (hx : ev x = .d (.sl sz es)) (hne : 0 < es.length) : QOp P w0 n s ev ⟨dst, .binOp .eql t x (.const (.slice none 0 0)) t', ty, pos, after, g⟩ (T.bool false) :=
  .mk fun a w ok blk val h hs hnew => by
    obtain ⟨A, cap, hv, _, _, _, _, h6⟩ := sl_inv (show Rep w _ (.sl sz es) (a.eval x) by have := h x; rw [hx] at this; exact this)
    rcases h6 with rfl | ⟨b, off, vs, rfl, _⟩
    · simp at hne
    · refine ⟨.bool false, w, ?_, Ext.refl w, .v _ rfl⟩
      have hc : a.eval (.const (.slice none 0 0)) = .slice none 0 0 := rfl
      have hr : (binOp .eql t (.slice (some ⟨b, off, none⟩) es.length cap) (.slice none 0 0)).run P w = .ok (.bool false) w := by
        simp only [binOp]
        simp [Op.equal, Op.maxDepth, Lib.run_equalIn_slice_nil w 9999 t e' (some ⟨b, off, none⟩) es.length cap 0 0 (slB_under ht)]
      simp [execOp, hv, hc, eqGuard, hr]
theorem newS.none {st : St} : ∀ {ks : List Nat} {ss' : List Site}, (ks.all fun k => match st.s k with | .no => true | _ => false) = true → ks.length = ss'.length → ∀ i, i < ss'.length → st.s (nth ks i) = .no
  | [], [], _, _, i, h => by simp at h
  | k :: ks, _ :: ss', h, hl, i, hi => by
    simp only [List.all_cons, Bool.and_eq_true] at h
    cases i with
    | zero =>
      show st.s k = .no
      cases hk : st.s k <;> simp [hk] at h ⊢
    | succ i => exact newS.none h.2 (by simpa using hl) i (by simpa using hi)
  | [], _ :: _, _, hl, _, _ => by simp at hl
  | _ :: _, [], _, hl, _, _ => by simp at hl
inductive CUpLL : List (List D) → List (List D) → Prop
  | nil : CUpLL [] []
  | cons {d d' : List D} {ds ds' : List (List D)} (h : CUpL d d') (hs : CUpLL ds ds') : CUpLL (d :: ds) (d' :: ds')
theorem CUpLL.at_ : ∀ {xs ys : List (List D)}, CUpLL xs ys → xs.length = ys.length ∧ ∀ (j : Nat) (d' : List D), ys[j]? = some d' → ∃ d, xs[j]? = some d ∧ CUpL d d'
  | _, _, .nil => ⟨rfl, fun j d' h => by simp at h⟩
  | _, _, .cons h hs => by
    obtain ⟨e, k⟩ := hs.at_
    refine ⟨by simp [e], fun j d' hj => ?_⟩
    cases j with
    | zero => simp at hj; subst hj; exact ⟨_, rfl, h⟩
    | succ j => exact k j d' (by simpa using hj)
theorem PC.up {f : FuncId} {args : List D} {r r' : D} (h : PC P f args r) (hu : ∀ w ok v, Rep w ok r v → Rep w ok r' v) : PC P f args r' := fun w ok vs hL =>
  (h w ok vs hL).mono fun _ _ ⟨v, h1, h2, h3⟩ => ⟨v, h1, h2, hu _ _ _ h3⟩
end
section
variable {P : Program} {w0 : Cx} {n : Nat} {s : Nat → Site} {ev : Operand → T} {dst : Option Tmp} {ty : TypeId} {pos : String} {after : Array Edge} {g : Option (Nat × Bool)}
theorem rs {st st' : St} {l ops : List Oper} {i : Nat} {e : Nat → T} {x y : Code} {R Q : Exit → St → Prop} (h : Awp P w0 x (thenR (fun u => Awp P w0 y R u) R) st') : RegW P w0 st l n [] i e st' (fun u => Aops P w0 ops [] (thenR (fun u => Awp P w0 (.seq x y) R u) Q) u) := rg_nil (aops_nil (awp_seq h))
end
end Go.Proofs.YthpggoophcdgnaaDoor.Am
