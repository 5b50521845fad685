/- The abstract machine, part 4: the operations that only compute or read. Conditions: none. -/
import Derived.Test.YtgdcidbpadhkpaaAm3
import Derived.IntWalk
import Derived.Laws.MakeOwn
import Derived.Laws.Strings
set_option linter.unusedVariables false
set_option linter.unusedSimpArgs false
namespace Go.Proofs.Ytgdcidbpadhkpaa.Am
open Go

section
variable {P : Program} {w0 : Cx} {n : Nat} {s : Nat → Site} {ev : Operand → T} {dst : Option Tmp} {ty : TypeId} {pos : String} {after : Array Edge} {g : Option (Nat × Bool)}

theorem QOp.core {st : St} {a : Act} {w : World} {blk : Nat → Option Nat} {val : Nat → Value} (hh : Hold w0 st a w blk val) (hs : Sub s ev st.s) (hev : ∀ y, ev y = .dead ∨ st.ev y = ev y) :
    ∃ blk' : Nat → Option Nat, (∀ y, RepT w (okOf w0 blk) blk' val s (ev y) (a.eval y)) ∧ (∀ k, SiteIn w (okOf w0 blk) blk' val s (blk' k) (val k) (s k)) ∧ ∀ (w' : World) (ok : Nat → Prop) (x : T) (v : Value), RepT w' ok blk' val s x v → RepT w' ok blk val st.s x v := by
  let blk' : Nat → Option Nat := fun k => match s k with | .no => none | _ => blk k
  have hb : ∀ k, s k ≠ .no → blk' k = blk k := fun k hk => by
    cases hq : s k <;> first | exact absurd hq hk | simp only [blk', hq]
  have hb0 : ∀ k, s k = .no → blk' k = none := fun k hk => by simp only [blk', hk]
  have hrel : ∀ k, s k ≠ .no → st.s k = s k := fun k hk => (hs.at_ k).resolve_right fun h => hk h.1
  have hn : ∀ k, st.s k = .no → blk k = none := fun k hk => by have := hh.site k; rw [hk] at this; exact this
  have heq : ∀ k, st.s k = s k → blk' k = blk k ∧ val k = val k ∧ (st.s k ≠ .no → s k ≠ .no) ∧ ((∃ e sz es, st.s k = .row e sz es) → ∃ e sz es, s k = .row e sz es) := fun k e => by
    refine ⟨?_, rfl, by rw [e]; exact id, by rw [e]; exact id⟩
    cases hq : s k with
    | no => rw [hb0 k hq, hn k (e.trans hq)]
    | _ => exact hb k (by rw [hq]; simp)
  refine ⟨blk', fun y => ?_, fun k => ?_, fun w' ok x v h => ?_⟩
  · rcases hev y with e | e
    · rw [e]; trivial
    · have h := hh.ev y
      rw [e] at h
      exact h.to (fun _ _ h => h) fun k hk => heq k ((hs.at_ k).resolve_right fun q => q.2 y hk)
  · cases hq : s k with
    | no => exact hb0 k hq
    | _ =>
      have e := hrel k (by rw [hq]; simp)
      have h := hh.site k
      rw [e, hq] at h
      rw [hb k (by rw [hq]; simp)]
      exact h.to (fun _ _ h => h) (.inl rfl) fun cs hcs y hy j hj => heq j (hs.tb k cs (hq.trans hcs) y hy j hj)
  · refine h.to (fun _ _ h => h) fun k hk => ?_
    have hl : s k ≠ .no := by
      rcases hk with rfl | ⟨o, rfl⟩
      · obtain ⟨⟨e, sz, es, q⟩, _⟩ := h; rw [q]; simp
      · exact h.1
    have e := hrel k hl
    exact ⟨(hb k hl).symm, rfl, by rw [e]; exact id, by rw [e]; exact id⟩
theorem QOp.mk {o : Oper} {x : T} (h : ∀ (a : Act) (w : World) (ok : Nat → Prop) (blk : Nat → Option Nat) (val : Nat → Value), (∀ y, RepT w ok blk val s (ev y) (a.eval y)) → (∀ k, SiteIn w ok blk val s (blk k) (val k) (s k)) →
    (∀ b, w.heap.size ≤ b → ok b) → ∃ v w', (execOp a.eval o).run P w = .ok (.value v) w' ∧ Ext w w' ∧ RepT w' ok blk val s x v) : QOp P w0 n s ev o x := by
  intro st a w ⟨blk, val, hh⟩ hs hn hev hd
  obtain ⟨blk', h1, h2, h3⟩ := QOp.core hh hs hev
  obtain ⟨v, w', h1, hE, h2⟩ := h a w (okOf w0 blk) blk' val h1 h2 (fun b hb => ⟨.inr (Nat.le_trans hh.ext.size hb), fun k hk => by have := (hh.new k b hk).2; omega⟩)
  exact wp_value h1 ⟨blk, val, (hh.ext' hE).put o.dst x v (fun d h => by rw [hn]; exact hd d h) (h3 _ _ _ _ h2)⟩

theorem RepT.v_eq {w : World} {ok : Nat → Prop} {blk : Nat → Option Nat} {val : Nat → Value} {x v : Value} (h : RepT w ok blk val s (.d (.v x)) v) : v = x := Rep.v_eq h

theorem q_move {y : Operand} {x : T} (h : ev y = x) : QOp P w0 n s ev ⟨dst, .move y, ty, pos, after, g⟩ x :=
  .mk fun a w ok blk val hy _ hnew => ⟨a.eval y, w, rfl, Ext.refl w, h ▸ hy y⟩
theorem q_assign {y : Operand} {x : T} (h : ev y = x) : QOp P w0 n s ev ⟨dst, .assign y, ty, pos, after, g⟩ x :=
  .mk fun a w ok blk val hy _ hnew => ⟨a.eval y, w, rfl, Ext.refl w, h ▸ hy y⟩
theorem q_pick {c y z : Operand} {cb p q : Bool} (hc : ev c = T.bool cb) (hy : ev y = T.bool p) (hz : ev z = T.bool q) : QOp P w0 n s ev ⟨dst, .pick c y z, ty, pos, after, g⟩ (T.bool (bif cb then p else q)) :=
  .mk fun a w ok blk val h _ hnew => by
    have h1 : a.eval c = .bool cb := RepT.v_eq (hc ▸ h c)
    have h2 : a.eval y = .bool p := RepT.v_eq (hy ▸ h y)
    have h3 : a.eval z = .bool q := RepT.v_eq (hz ▸ h z)
    refine ⟨.bool (bif cb then p else q), w, ?_, Ext.refl w, Rep.v _ rfl⟩
    simp only [execOp, h1, h2, h3, asBool]
    cases cb <;> rfl

theorem q_bin {op : BinOp} {t t' : TypeId} {x y : Operand} {u v r : Value} (hx : ev x = .d (.v u)) (hy : ev y = .d (.v v)) (hr : ∀ w, (do eqGuard op t x y u v; binOp op t u v : Sem Value).run P w = .ok r w) (h1 : r.oneCell' = true) :
    QOp P w0 n s ev ⟨dst, .binOp op t x y t', ty, pos, after, g⟩ (.d (.v r)) :=
  .mk fun a w ok blk val h _ hnew => by
    have e1 : a.eval x = u := RepT.v_eq (hx ▸ h x)
    have e2 : a.eval y = v := RepT.v_eq (hy ▸ h y)
    refine ⟨r, w, ?_, Ext.refl w, Rep.v _ h1⟩
    have := hr w
    simp only [execOp, e1, e2, Sem.run_bind] at this ⊢
    rw [this]; rfl
abbrev T.i (n : Int) : T := .d (.v (.int .i64 n))
theorem q_addw {t t' : TypeId} {x y : Operand} {k : IntKind} {a b : Int} (hx : ev x = .d (.v (.int k a))) (hy : ev y = .d (.v (.int k b))) : QOp P w0 n s ev ⟨dst, .binOp .add t x y t', ty, pos, after, g⟩ (.d (.v (.int k (k.wrap (a + b))))) :=
  q_bin hx hy (fun w => by simp [eqGuard, binOp, Op.intArith]) rfl
theorem q_subw {t t' : TypeId} {x y : Operand} {k : IntKind} {a b : Int} (hx : ev x = .d (.v (.int k a))) (hy : ev y = .d (.v (.int k b))) : QOp P w0 n s ev ⟨dst, .binOp .sub t x y t', ty, pos, after, g⟩ (.d (.v (.int k (k.wrap (a - b))))) :=
  q_bin hx hy (fun w => by simp [eqGuard, binOp, Op.intArith]) rfl
theorem q_mulw {t t' : TypeId} {x y : Operand} {k : IntKind} {a b : Int} (hx : ev x = .d (.v (.int k a))) (hy : ev y = .d (.v (.int k b))) : QOp P w0 n s ev ⟨dst, .binOp .mul t x y t', ty, pos, after, g⟩ (.d (.v (.int k (k.wrap (a * b))))) :=
  q_bin hx hy (fun w => by simp [eqGuard, binOp, Op.intArith]) rfl
def In64 (n : Int) : Prop := -9223372036854775808 ≤ n ∧ n ≤ 9223372036854775807
theorem q_add {t t' : TypeId} {x y : Operand} {a b : Int} (hx : ev x = T.i a) (hy : ev y = T.i b) (h : In64 (a + b)) : QOp P w0 n s ev ⟨dst, .binOp .add t x y t', ty, pos, after, g⟩ (T.i (a + b)) := by
  have := q_addw (P := P) (w0 := w0) (n := n) (s := s) (dst := dst) (ty := ty) (pos := pos) (after := after) (g := g) (t := t) (t' := t') hx hy
  rwa [IntWalk.i64_in _ h] at this
theorem q_sub {t t' : TypeId} {x y : Operand} {a b : Int} (hx : ev x = T.i a) (hy : ev y = T.i b) (h : In64 (a - b)) : QOp P w0 n s ev ⟨dst, .binOp .sub t x y t', ty, pos, after, g⟩ (T.i (a - b)) := by
  have := q_subw (P := P) (w0 := w0) (n := n) (s := s) (dst := dst) (ty := ty) (pos := pos) (after := after) (g := g) (t := t) (t' := t') hx hy
  rwa [IntWalk.i64_in _ h] at this
theorem q_mul {t t' : TypeId} {x y : Operand} {a b : Int} (hx : ev x = T.i a) (hy : ev y = T.i b) (h : In64 (a * b)) : QOp P w0 n s ev ⟨dst, .binOp .mul t x y t', ty, pos, after, g⟩ (T.i (a * b)) := by
  have := q_mulw (P := P) (w0 := w0) (n := n) (s := s) (dst := dst) (ty := ty) (pos := pos) (after := after) (g := g) (t := t) (t' := t') hx hy
  rwa [IntWalk.i64_in _ h] at this
theorem q_quo {t t' : TypeId} {x y : Operand} {a b : Int} (hx : ev x = T.i a) (hy : ev y = T.i b) (hb : b ≠ 0) (h : In64 (a.tdiv b)) : QOp P w0 n s ev ⟨dst, .binOp .quo t x y t', ty, pos, after, g⟩ (T.i (a.tdiv b)) :=
  q_bin hx hy (fun w => by simp [eqGuard, binOp, Op.intDiv, hb, IntWalk.i64_in _ h]) rfl
theorem q_rem {t t' : TypeId} {x y : Operand} {a b : Int} (hx : ev x = T.i a) (hy : ev y = T.i b) (hb : b ≠ 0) : QOp P w0 n s ev ⟨dst, .binOp .rem t x y t', ty, pos, after, g⟩ (T.i (a.tmod b)) :=
  q_bin hx hy (fun w => by simp [eqGuard, binOp, Op.intDiv, hb]) rfl
section
variable {t t' : TypeId} {x y : Operand} {k : IntKind} {a b : Int} (hx : ev x = .d (.v (.int k a))) (hy : ev y = .d (.v (.int k b)))
include hx hy
theorem q_lss : QOp P w0 n s ev ⟨dst, .binOp .lss t x y t', ty, pos, after, g⟩ (T.bool (decide (a < b))) := q_bin hx hy (fun w => by simp [eqGuard, binOp, Op.intCmp]) rfl
theorem q_leq : QOp P w0 n s ev ⟨dst, .binOp .leq t x y t', ty, pos, after, g⟩ (T.bool (decide (a ≤ b))) := q_bin hx hy (fun w => by simp [eqGuard, binOp, Op.intCmp]) rfl
theorem q_gtr : QOp P w0 n s ev ⟨dst, .binOp .gtr t x y t', ty, pos, after, g⟩ (T.bool (decide (b < a))) := q_bin hx hy (fun w => by simp [eqGuard, binOp, Op.intCmp]) rfl
theorem q_geq : QOp P w0 n s ev ⟨dst, .binOp .geq t x y t', ty, pos, after, g⟩ (T.bool (decide (b ≤ a))) := q_bin hx hy (fun w => by simp [eqGuard, binOp, Op.intCmp]) rfl
theorem q_eql : QOp P w0 n s ev ⟨dst, .binOp .eql t x y t', ty, pos, after, g⟩ (T.bool (decide (a = b))) := q_bin hx hy (fun w => by
  have : (a == b) = decide (a = b) := by rw [Bool.eq_iff_iff]; simp
  simp [eqGuard, binOp, Op.intCmp, this]) rfl
theorem q_neq : QOp P w0 n s ev ⟨dst, .binOp .neq t x y t', ty, pos, after, g⟩ (T.bool (decide (a ≠ b))) := q_bin hx hy (fun w => by
  have : (a != b) = decide (a ≠ b) := by rw [Bool.eq_iff_iff]; simp
  simp [eqGuard, binOp, Op.intCmp, this]) rfl
end
theorem ba_beq (x y : ByteArray) : (x.toList == y.toList) = decide (x = y) := by
  rw [Bool.eq_iff_iff]
  simp only [beq_iff_eq, decide_eq_true_eq]
  constructor
  · intro h
    have h2 : x.data.toList = y.data.toList := by rw [← ByteArray.toList_eq, ← ByteArray.toList_eq]; exact h
    cases x; cases y
    simp only [ByteArray.mk.injEq]
    exact Array.toList_inj.1 h2
  · intro h; rw [h]
theorem q_eqls {t t' : TypeId} {x y : Operand} {a b : ByteArray} (hx : ev x = .d (.v (.string a))) (hy : ev y = .d (.v (.string b))) : QOp P w0 n s ev ⟨dst, .binOp .eql t x y t', ty, pos, after, g⟩ (T.bool (decide (a = b))) :=
  q_bin hx hy (fun w => by simp [eqGuard, binOp, Op.stringOp, ba_beq]) rfl
theorem q_neqs {t t' : TypeId} {x y : Operand} {a b : ByteArray} (hx : ev x = .d (.v (.string a))) (hy : ev y = .d (.v (.string b))) : QOp P w0 n s ev ⟨dst, .binOp .neq t x y t', ty, pos, after, g⟩ (T.bool (decide (a ≠ b))) :=
  q_bin hx hy (fun w => by simp [eqGuard, binOp, Op.stringOp, ba_beq]) rfl

theorem q_un {op : UnOp} {t : TypeId} {x : Operand} {u r : Value} (hx : ev x = .d (.v u)) (hr : ∀ w, (Op.unary op u).run P w = .ok r w) (h1 : r.oneCell' = true) :
    QOp P w0 n s ev ⟨dst, .unOp op t x, ty, pos, after, g⟩ (.d (.v r)) :=
  .mk fun a w ok blk val h _ hnew => by
    have e1 : a.eval x = u := RepT.v_eq (hx ▸ h x)
    refine ⟨r, w, ?_, Ext.refl w, Rep.v _ h1⟩
    simp only [execOp, e1, Sem.run_bind, hr w]; rfl
theorem q_not {t : TypeId} {x : Operand} {b : Bool} (hx : ev x = T.bool b) : QOp P w0 n s ev ⟨dst, .unOp .not t x, ty, pos, after, g⟩ (T.bool (!b)) := q_un hx (fun w => rfl) rfl
theorem q_neg {t : TypeId} {x : Operand} {a : Int} (hx : ev x = T.i a) (h : In64 (-a)) : QOp P w0 n s ev ⟨dst, .unOp .neg t x, ty, pos, after, g⟩ (T.i (-a)) :=
  q_un hx (fun w => by simp [Op.unary, Op.intArith, IntWalk.i64_in _ h]) rfl

theorem my_typeInfo {t : TypeId} {i : TypeInfo} (h : P.info? t = some i) (w : World) : (typeInfo t).run P w = .ok i w := by
  simp [typeInfo, h]
/- what the walk asks of types -/
def szB (P : Program) (t : TypeId) (agg : Bool) (m : Nat) : Bool :=
  (match P.underlying t with | some (.struct _) | some (.array _ _) => agg | some _ => !agg | none => false) && (match P.info? t with | some i => i.size == m | none => false)
theorem szB_agg {t : TypeId} {agg : Bool} {m : Nat} (h : szB P t agg m = true) (w : World) : (isAgg t).run P w = .ok agg w := by
  simp only [szB, Bool.and_eq_true] at h
  cases hu : P.underlying t with
  | none => simp [hu] at h
  | some d => cases d <;> simp [hu] at h <;> simp [isAgg, run_underlying hu, h.1]
theorem szB_size {t : TypeId} {agg : Bool} {m : Nat} (h : szB P t agg m = true) (w : World) : (sizeOf t).run P w = .ok m w := by
  simp only [szB, Bool.and_eq_true] at h
  cases hu : P.info? t with
  | none => simp [hu] at h
  | some d => simp [hu] at h; simp [sizeOf, typeInfo, hu, h.2]
theorem szB_info {t : TypeId} {agg : Bool} {m : Nat} (h : szB P t agg m = true) : ∃ i, P.info? t = some i ∧ i.size = m := by
  simp only [szB, Bool.and_eq_true] at h
  cases hu : P.info? t with
  | none => simp [hu] at h
  | some d => simp [hu] at h; exact ⟨d, rfl, h.2⟩
theorem addr_add (b o k : Nat) : (⟨b, o, none⟩ : Addr).add k = ⟨b, o + k, none⟩ := by
  unfold Addr.add; split
  · subst_vars; rfl
  · rfl

theorem pt_inv {w : World} {ok : Nat → Prop} {cs : List D} {o : Nat} {v : Value} (h : Rep w ok (.pt cs o) v) : ∃ (b off : Nat) (vs : Nat → Value), v = .pointer (some ⟨b, off + o, none⟩) ∧ b < w.heap.size ∧ ok b ∧ (∀ (j : Nat) (d : D), cs[j]? = some d → d.sc = true) ∧
    (∀ (j : Nat) (d : D), cs[j]? = some d → w.cell? ⟨b, off + j, none⟩ = some (vs j)) ∧ ∀ (j : Nat) (d : D), cs[j]? = some d → Rep w ok d (vs j) := by
  generalize hd : D.pt cs o = x at h
  cases h with
  | pt cs o b off vs hb hok hs hc hr =>
  cases hd
  exact ⟨b, off, vs, rfl, hb, hok, hs, hc, hr⟩
  | _ => cases hd
theorem sl_inv {w : World} {ok : Nat → Prop} {sz : Nat} {es : List (List D)} {v : Value} (h : Rep w ok (.sl sz es) v) : ∃ A cap, v = .slice A es.length cap ∧ es.length ≤ cap ∧ cap ≤ maxLen ∧ (∀ (i : Nat) (e : List D), es[i]? = some e → e.length = sz) ∧ (∀ (i : Nat) (e : List D) (j : Nat) (d : D), es[i]? = some e → e[j]? = some d → d.sc = true) ∧
    (es = [] ∨ ∃ (b off : Nat) (vs : Nat → Nat → Value), A = some ⟨b, off, none⟩ ∧ b < w.heap.size ∧ ok b ∧
    (∀ (i : Nat) (e : List D) (j : Nat) (d : D), es[i]? = some e → e[j]? = some d → w.cell? ⟨b, off + i * sz + j, none⟩ = some (vs i j)) ∧ ∀ (i : Nat) (e : List D) (j : Nat) (d : D), es[i]? = some e → e[j]? = some d → Rep w ok d (vs i j)) := by
  generalize hd : D.sl sz es = x at h
  cases h with
  | emp sz A cap h =>
    cases hd
    exact ⟨A, cap, rfl, Nat.zero_le _, h, fun i e h => by simp at h, fun i e j d h => by simp at h, .inl rfl⟩
  | sl sz es b off cap vs hb hok hn hcap hsz hs hc hr =>
    cases hd
    exact ⟨some ⟨b, off, none⟩, cap, rfl, hn, hcap, hsz, hs, .inr ⟨b, off, vs, rfl, hb, hok, hc, hr⟩⟩
  | _ => cases hd

theorem q_load {t : TypeId} {y : Operand} {m : Nat} {cs : List D} {o : Nat} {d : D} (ht : szB P t false m = true) (hy : ev y = .d (.pt cs o)) (hd : cs[o]? = some d) : QOp P w0 n s ev ⟨dst, .load t y, ty, pos, after, g⟩ (.d d) :=
  .mk fun a w ok blk val h _ hnew => by
    obtain ⟨b, off, vs, hv, _, _, hs, hc, hr⟩ := pt_inv (show Rep w _ (.pt cs o) (a.eval y) by have := h y; rw [hy] at this; exact this)
    refine ⟨vs o, w, ?_, Ext.refl w, hr o d hd⟩
    simp [execOp, hv, Instr.loadAt, Instr.sureAddr, loadVar, szB_agg ht, hc o d hd]
theorem q_loadA {t : TypeId} {y : Operand} {m : Nat} {cs ds : List D} {o : Nat} (ht : szB P t true m = true) (hy : ev y = .d (.pt cs o)) (hd : (cs.drop o).take m = ds) (hl : ds.length = m) : QOp P w0 n s ev ⟨dst, .load t y, ty, pos, after, g⟩ (.d (.agg ds)) :=
  .mk fun a w ok blk val h _ hnew => by
    obtain ⟨b, off, vs, hv, _, _, hs, hc, hr⟩ := pt_inv (show Rep w _ (.pt cs o) (a.eval y) by have := h y; rw [hy] at this; exact this)
    subst hd
    have hget : ∀ (j : Nat) (d : D), ((cs.drop o).take m)[j]? = some d → cs[o + j]? = some d := fun j d hj => by
      rw [List.getElem?_take] at hj
      split at hj
      · simpa [List.getElem?_drop] using hj
      · cases hj
    have hj : ∀ j, j < m → ∃ d, ((cs.drop o).take m)[j]? = some d := fun j hj => ⟨_, List.getElem?_eq_getElem (by omega)⟩
    have hrun := run_loadCells (P := P) w ⟨b, off + o, none⟩ m (fun j => vs (o + j)) (fun j hjm => by
      obtain ⟨d, hd⟩ := hj j hjm
      rw [addr_add, Nat.add_assoc]; exact hc _ d (hget j d hd))
    refine ⟨.agg ((List.range m).map fun j => vs (o + j)).toArray, w, ?_, Ext.refl w, ?_⟩
    · simp [execOp, hv, Instr.loadAt, Instr.sureAddr, loadVar, szB_agg ht, szB_size ht, hrun]
    · refine Rep.agg _ _ (by simpa using hl.symm) (fun j d hd => hs _ d (hget j d hd)) fun j d v hd hv => ?_
      have hjm : j < m := by have := (List.getElem?_eq_some_iff.1 hv).1; simpa using this
      simp [hjm] at hv
      subst hv
      exact hr _ d (hget j d hd)

def fldB (P : Program) (t : TypeId) (f off : Nat) : Bool :=
  match P.underlying t with
  | some (.struct fs) => match fs[f]? with
    | some fd => fd.offset == off && (match P.info? fd.type with | some i => i.size != 0 | none => false)
    | none => false
  | _ => false
theorem run_fieldAt {t : TypeId} {f off b o : Nat} (h : fldB P t f off = true) (w : World) : (Instr.fieldAt t (.pointer (some ⟨b, o, none⟩)) f).run P w = .ok (.pointer (some ⟨b, o + off, none⟩)) w := by
  unfold fldB at h
  cases hu : P.underlying t with
  | none => simp [hu] at h
  | some d =>
    cases d <;> simp only [hu, Bool.false_eq_true] at h
    rename_i fs
    cases hf : fs[f]? with
    | none => simp [hf] at h
    | some fd =>
      simp only [hf, Bool.and_eq_true, beq_iff_eq] at h
      cases hi : P.info? fd.type with
      | none => simp [hi] at h
      | some i =>
        simp only [hi, bne_iff_ne, ne_eq] at h
        simp [Instr.fieldAt, run_underlying hu, hf, Instr.sureAddr, fieldPlace, sizeOf, my_typeInfo hi, h.2, h.1, addr_add]
theorem q_fieldAddr {t : TypeId} {y : Operand} {f off o : Nat} {cs : List D} (ht : fldB P t f off = true) (hy : ev y = .d (.pt cs o)) : QOp P w0 n s ev ⟨dst, .fieldAddr t y f, ty, pos, after, g⟩ (.d (.pt cs (o + off))) :=
  .mk fun a w ok blk val h _ hnew => by
    obtain ⟨b, of, vs, hv, hb, hok, hs, hc, hr⟩ := pt_inv (show Rep w _ (.pt cs o) (a.eval y) by have := h y; rw [hy] at this; exact this)
    refine ⟨.pointer (some ⟨b, of + (o + off), none⟩), w, ?_, Ext.refl w, Rep.pt cs _ b of vs hb hok hs hc hr⟩
    simp [execOp, hv, run_fieldAt ht, Nat.add_assoc]
theorem q_fieldAddr_ref {t : TypeId} {y : Operand} {f off o k : Nat} (ht : fldB P t f off = true) (hy : ev y = .ref k o) : QOp P w0 n s ev ⟨dst, .fieldAddr t y f, ty, pos, after, g⟩ (.ref k (o + off)) :=
  .mk fun a w ok blk val h _ hnew => by
    have := h y
    rw [hy] at this
    obtain ⟨hk, b, hb, hv⟩ := this
    refine ⟨.pointer (some ⟨b, o + off, none⟩), w, ?_, Ext.refl w, ⟨hk, b, hb, rfl⟩⟩
    simp [execOp, hv, run_fieldAt ht]

def slB (P : Program) (t e sz : Nat) : Bool := (match P.underlying t with | some (.slice e') => e' == e | _ => false) && (match P.info? e with | some i => i.size == sz | none => false)
theorem slB_under {t e sz : Nat} (h : slB P t e sz = true) : P.underlying t = some (.slice e) := by
  simp only [slB, Bool.and_eq_true] at h
  cases hu : P.underlying t with
  | none => simp [hu] at h
  | some d => cases d <;> simp [hu] at h <;> rw [h.1]
theorem slB_info {t e sz : Nat} (h : slB P t e sz = true) : ∃ i, P.info? e = some i ∧ i.size = sz := by
  simp only [slB, Bool.and_eq_true] at h
  cases hu : P.info? e with
  | none => simp [hu] at h
  | some d => simp [hu] at h; exact ⟨d, rfl, h.2⟩
theorem run_indexAt_sl {t e sz b o len cap : Nat} {i : Int} {k : IntKind} (h : slB P t e sz = true) (h0 : 0 ≤ i) (h1 : i < len) (w : World) :
    (Instr.indexAt t (.slice (some ⟨b, o, none⟩) len cap) (.int k i)).run P w = .ok (.pointer (some ⟨b, o + i.toNat * sz, none⟩)) w := by
  obtain ⟨inf, hi, hs⟩ := slB_info h
  simp [Instr.indexAt, asIntOf, run_underlying (slB_under h), h0, h1, sizeOf, my_typeInfo hi, hs, addr_add]
theorem q_indexAddr {t : TypeId} {y z : Operand} {e sz : Nat} {es : List (List D)} {k : IntKind} {i : Int} {x : List D} (ht : slB P t e sz = true) (hy : ev y = .d (.sl sz es)) (hz : ev z = .d (.v (.int k i))) (h0 : 0 ≤ i) (hx : es[i.toNat]? = some x) :
    QOp P w0 n s ev ⟨dst, .indexAddr t y z, ty, pos, after, g⟩ (.d (.pt x 0)) :=
  .mk fun a w ok blk val h _ hnew => by
    obtain ⟨A, cap, hv, hn, hcap, hsz, hs, hrest⟩ := sl_inv (show Rep w _ (.sl sz es) (a.eval y) by have := h y; rw [hy] at this; exact this)
    have hi : i.toNat < es.length := (List.getElem?_eq_some_iff.1 hx).1
    rcases hrest with rfl | ⟨b, off, vs, rfl, hb, hok, hc, hr⟩
    · simp at hi
    have hzv : a.eval z = .int k i := RepT.v_eq (hz ▸ h z)
    refine ⟨.pointer (some ⟨b, off + i.toNat * sz + 0, none⟩), w, ?_, Ext.refl w, Rep.pt x 0 b (off + i.toNat * sz) (fun j => vs i.toNat j) hb hok (fun j d hd => hs _ _ j d hx hd) (fun j d hd => hc _ _ j d hx hd) (fun j d hd => hr _ _ j d hx hd)⟩
    simp [execOp, hv, hzv, run_indexAt_sl ht h0 (show i < (es.length : Int) by omega)]
end
end Go.Proofs.Ytgdcidbpadhkpaa.Am
