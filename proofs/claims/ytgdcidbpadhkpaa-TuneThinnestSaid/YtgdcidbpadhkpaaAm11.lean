/- The abstract machine, part 11: lengths, least and greatest, slices of slices, indices, loads out of sites, function values, equality of aggregates. Conditions: none. -/
import Derived.Test.YtgdcidbpadhkpaaAm10
set_option linter.unusedVariables false
set_option linter.unusedSimpArgs false
namespace Go.Proofs.Ytgdcidbpadhkpaa.Am
open Go

section
variable {P : Program} {w0 : Cx} {n : Nat} {s : Nat → Site} {ev : Operand → T} {dst : Option Tmp} {ty : TypeId} {pos : String} {after : Array Edge} {g : Option (Nat × Bool)}

theorem run_builtin_len {o : Oper} {a : Act} {w : World} {y : Operand} {t : TypeId} {k : Int} (ho : o.op = .call ⟨.builtin .len, #[y], #[t]⟩) (h : (Builtin.len_ #[t] o.type #[a.eval y]).run P w = .ok (.int .i64 k) w) : (execOp a.eval o).run P w = .ok (.value (.int .i64 k)) w := by
  simp [execOp, ho, resolve, invoke, builtin, h]
def isSl (P : Program) (t : TypeId) : Bool := match P.underlying t with | some (.slice _) => true | _ => false
theorem isSl_under {t : TypeId} (h : isSl P t = true) : ∃ e, P.underlying t = some (.slice e) := by
  unfold isSl at h
  cases hu : P.underlying t with
  | none => simp [hu] at h
  | some d => cases d <;> simp [hu] at h ⊢
theorem q_len {y : Operand} {t : TypeId} {sz m : Nat} {es : List (List D)} (ht : isSl P t = true) (hy : ev y = .d (.sl sz es)) (hm : es.length = m) : QOp P w0 n s ev ⟨dst, .call ⟨.builtin .len, #[y], #[t]⟩, ty, pos, after, g⟩ (T.i m) :=
  .mk fun a w ok blk val h _ hnew => by
    subst hm
    obtain ⟨A, cap, hv, _⟩ := sl_inv (show Rep w _ (.sl sz es) (a.eval y) by have := h y; rw [hy] at this; exact this)
    obtain ⟨e, he⟩ := isSl_under ht
    exact ⟨_, w, run_builtin_len rfl (by simp [Builtin.len_, run_underlying he, hv, goInt]), Ext.refl w, .v _ rfl⟩
theorem q_len_nil {y : Operand} {t : TypeId} (ht : isSl P t = true) (hy : ev y = .d (.v (.slice none 0 0))) : QOp P w0 n s ev ⟨dst, .call ⟨.builtin .len, #[y], #[t]⟩, ty, pos, after, g⟩ (T.i 0) :=
  .mk fun a w ok blk val h _ hnew => by
    have hv : a.eval y = .slice none 0 0 := RepT.v_eq (hy ▸ h y)
    obtain ⟨e, he⟩ := isSl_under ht
    exact ⟨_, w, run_builtin_len rfl (by simp [Builtin.len_, run_underlying he, hv, goInt]), Ext.refl w, .v _ rfl⟩
theorem q_len_rs {y : Operand} {t : TypeId} {k e sz : Nat} {es : List (List D)} (ht : isSl P t = true) (hy : ev y = .rs k) (hk : s k = .row e sz es) : QOp P w0 n s ev ⟨dst, .call ⟨.builtin .len, #[y], #[t]⟩, ty, pos, after, g⟩ (T.i es.length) :=
  .mk fun a w ok blk val h hs hnew => by
    have h1 := h y
    rw [hy] at h1
    obtain ⟨_, hv⟩ := h1
    have h2 := hs k
    rw [hk] at h2
    obtain ⟨e', he⟩ := isSl_under ht
    obtain ⟨_, _, h3⟩ := h2
    rcases h3 with ⟨_, he0, hval⟩ | ⟨b, vals, cap, _, hval, _⟩
    · exact ⟨_, w, run_builtin_len (k := es.length) rfl (by simp [Builtin.len_, run_underlying he, hv, hval, he0, goInt]), Ext.refl w, .v _ rfl⟩
    · exact ⟨_, w, run_builtin_len (k := es.length) rfl (by simp [Builtin.len_, run_underlying he, hv, hval, goInt]), Ext.refl w, .v _ rfl⟩
def isStr (P : Program) (t : TypeId) : Bool := match P.underlying t with | some .string => true | _ => false
theorem isStr_under {t : TypeId} (h : isStr P t = true) : P.underlying t = some .string := by
  unfold isStr at h
  cases hu : P.underlying t with
  | none => simp [hu] at h
  | some d => cases d <;> simp [hu] at h ⊢
theorem q_len_str {y : Operand} {t : TypeId} {b : ByteArray} (ht : isStr P t = true) (hy : ev y = .d (.v (.string b))) : QOp P w0 n s ev ⟨dst, .call ⟨.builtin .len, #[y], #[t]⟩, ty, pos, after, g⟩ (T.i b.size) :=
  .mk fun a w ok blk val h _ hnew => by
    have hv : a.eval y = .string b := RepT.v_eq (hy ▸ h y)
    exact ⟨_, w, run_builtin_len rfl (by simp [Builtin.len_, run_underlying (isStr_under ht), hv, goInt]), Ext.refl w, .v _ rfl⟩
theorem q_max {x y : Operand} {ts : Array TypeId} {a b : Int} {k : IntKind} (hx : ev x = .d (.v (.int k a))) (hy : ev y = .d (.v (.int k b))) : QOp P w0 n s ev ⟨dst, .call ⟨.builtin .max, #[x, y], ts⟩, ty, pos, after, g⟩ (.d (.v (.int k (max a b)))) :=
  .mk fun act w ok blk val h _ _ => by
    have h1 : act.eval x = .int k a := RepT.v_eq (hx ▸ h x)
    have h2 : act.eval y = .int k b := RepT.v_eq (hy ▸ h y)
    have hm : (if b > a then b else a) = max a b := by split <;> omega
    exact ⟨_, w, by simp [execOp, resolve, invoke, builtin, Builtin.max_, Builtin.max2, h1, h2, ← hm], Ext.refl w, .v _ rfl⟩
theorem q_min {x y : Operand} {ts : Array TypeId} {a b : Int} {k : IntKind} (hx : ev x = .d (.v (.int k a))) (hy : ev y = .d (.v (.int k b))) : QOp P w0 n s ev ⟨dst, .call ⟨.builtin .min, #[x, y], ts⟩, ty, pos, after, g⟩ (.d (.v (.int k (min a b)))) :=
  .mk fun act w ok blk val h _ _ => by
    have h1 : act.eval x = .int k a := RepT.v_eq (hx ▸ h x)
    have h2 : act.eval y = .int k b := RepT.v_eq (hy ▸ h y)
    have hm : (if b < a then b else a) = min a b := by split <;> omega
    exact ⟨_, w, by simp [execOp, resolve, invoke, builtin, Builtin.min_, Builtin.min2, h1, h2, ← hm], Ext.refl w, .v _ rfl⟩

theorem slice_rep {w : World} {ok : Nat → Prop} {sz : Nat} {es : List (List D)} {b off : Nat} {vs : Nat → Nat → Value} {cap lo hi : Nat} (hb : b < w.heap.size) (hok : ok b) (hcap : cap ≤ maxLen) (hn : es.length ≤ cap)
    (hsz : ∀ (i : Nat) (e : List D), es[i]? = some e → e.length = sz) (hs : ∀ (i : Nat) (e : List D) (j : Nat) (d : D), es[i]? = some e → e[j]? = some d → d.sc = true)
    (hc : ∀ (i : Nat) (e : List D) (j : Nat) (d : D), es[i]? = some e → e[j]? = some d → w.cell? ⟨b, off + i * sz + j, none⟩ = some (vs i j)) (hr : ∀ (i : Nat) (e : List D) (j : Nat) (d : D), es[i]? = some e → e[j]? = some d → Rep w ok d (vs i j)) (h1 : lo ≤ hi) (h2 : hi ≤ es.length) :
    Rep w ok (.sl sz ((es.take hi).drop lo)) (.slice (some ⟨b, off + lo * sz, none⟩) (hi - lo) (cap - lo)) := by
  have hg : ∀ (i : Nat) (e : List D), ((es.take hi).drop lo)[i]? = some e → es[lo + i]? = some e := fun i e h => by
    rw [List.getElem?_drop, List.getElem?_take] at h
    split at h
    · exact h
    · cases h
  have hl : ((es.take hi).drop lo).length = hi - lo := by simp; omega
  have := Rep.sl (w := w) (ok := ok) sz ((es.take hi).drop lo) b (off + lo * sz) (cap - lo) (fun i j => vs (lo + i) j) hb hok (by rw [hl]; omega) (by omega) (fun i e h => hsz _ e (hg i e h)) (fun i e j d h h' => hs _ e j d (hg i e h) h') (fun i e j d h h' => by
    have := hc _ e j d (hg i e h) h'
    rw [show off + lo * sz + i * sz + j = off + (lo + i) * sz + j by rw [Nat.add_mul]; omega]; exact this) (fun i e j d h h' => hr _ e j d (hg i e h) h')
  rw [hl] at this; exact this
def boundOk (ev : Operand → T) (x : Option Operand) (dflt v : Nat) : Prop := match x with | none => v = dflt | some y => ev y = T.i (v : Int)
theorem run_bounds {a : Act} {cap len lo hi : Nat} {l h : Option Operand} {w : World} {blk : Nat → Option Nat} {val : Nat → Value} {ok : Nat → Prop} (hy : ∀ y, RepT w ok blk val s (ev y) (a.eval y)) (hl : boundOk ev l 0 lo) (hh : boundOk ev h len hi) (h1 : lo ≤ hi) (h2 : hi ≤ len) (h3 : len ≤ cap) (b : Bool) :
    (Instr.sliceBounds b len cap (l.map a.eval) (h.map a.eval) none).run P w = .ok (lo, hi, cap) w := by
  have vl : ∀ y, l = some y → a.eval y = .int .i64 (lo : Int) := fun y e => by subst e; exact RepT.v_eq ((show ev y = T.i lo from hl) ▸ hy y)
  have vh : ∀ y, h = some y → a.eval y = .int .i64 (hi : Int) := fun y e => by subst e; exact RepT.v_eq ((show ev y = T.i hi from hh) ▸ hy y)
  cases l with
  | none =>
    have : lo = 0 := hl
    subst this
    cases h with
    | none => have : hi = len := hh
              subst this
              simp [Instr.sliceBounds]
    | some y => simp [Instr.sliceBounds, vh y rfl, Instr.sliceBound, asIntOf, show (hi : Int) ≤ (cap : Int) by omega, show hi ≤ cap by omega]
  | some x =>
    cases h with
    | none =>
      have : hi = len := hh
      subst this
      simp [Instr.sliceBounds, vl x rfl, Instr.sliceBound, asIntOf, show (lo : Int) ≤ (hi : Int) by omega, h1]
    | some y => simp [Instr.sliceBounds, vl x rfl, vh y rfl, Instr.sliceBound, asIntOf, show (lo : Int) ≤ (hi : Int) by omega, show (hi : Int) ≤ (cap : Int) by omega, show hi ≤ cap by omega, h1]
theorem q_slice {t : TypeId} {y : Operand} {l h : Option Operand} {e sz lo hi : Nat} {es es' : List (List D)} (ht : slB P t e sz = true) (hy : ev y = .d (.sl sz es)) (hl : boundOk ev l 0 lo) (hh : boundOk ev h es.length hi) (h1 : lo ≤ hi) (h2 : hi ≤ es.length) (hes : (es.take hi).drop lo = es') :
    QOp P w0 n s ev ⟨dst, .slice t y l h none, ty, pos, after, g⟩ (.d (.sl sz es')) :=
  .mk fun a w ok blk val hv _ hnew => by
    subst hes
    obtain ⟨A, cap, hval, hn, hcap, hsz, hs, hrest⟩ := sl_inv (show Rep w _ (.sl sz es) (a.eval y) by have := hv y; rw [hy] at this; exact this)
    have hb := run_bounds (P := P) (cap := cap) hv hl hh h1 h2 hn true
    obtain ⟨inf, hi', hs'⟩ := slB_info ht
    rcases hrest with rfl | ⟨b, off, vs, rfl, hb', hok, hc, hr⟩
    · have e1 : hi = 0 := by simp at h2; exact h2
      have e2 : lo = 0 := by omega
      subst e1; subst e2
      refine ⟨.slice A 0 cap, w, ?_, Ext.refl w, ?_⟩
      · simp only [List.length_nil] at hb hval
        simp only [execOp, Instr.sliceAt, Sem.run_bind, run_underlying (slB_under ht), Result.andThen_ok, Instr.slice, hval, hb, sizeOf, my_typeInfo hi', Option.map_none]
        simp
        intro _
        cases A <;> simp [Addr.add]
      · have := Rep.emp (w := w) (ok := ok) sz A cap hcap
        simpa [RepT] using this
    · by_cases hcl : cap = lo
      · have e1 : hi = lo := by omega
        subst e1
        refine ⟨.slice (some ⟨b, off, none⟩) 0 0, w, ?_, Ext.refl w, ?_⟩
        · simp only [execOp, Instr.sliceAt, Sem.run_bind, run_underlying (slB_under ht), Result.andThen_ok, Instr.slice, hval, hb, sizeOf, my_typeInfo hi', Option.map_none]
          simp [hcl]
        · have e2 : (es.take hi).drop hi = [] := by simp
          rw [e2]
          exact Rep.emp _ _ _ (Nat.zero_le _)
      · refine ⟨.slice (some ⟨b, off + lo * sz, none⟩) (hi - lo) (cap - lo), w, ?_, Ext.refl w, slice_rep hb' hok hcap hn hsz hs hc hr h1 h2⟩
        simp only [execOp, Instr.sliceAt, Sem.run_bind, run_underlying (slB_under ht), Result.andThen_ok, Instr.slice, hval, hb, sizeOf, my_typeInfo hi', Option.map_none]
        simp [hcl, hs', addr_add]
theorem q_index_str {t : TypeId} {y z : Operand} {b : ByteArray} {i : Int} {k : IntKind} {c : UInt8} (ht : isStr P t = true) (hy : ev y = .d (.v (.string b))) (hz : ev z = .d (.v (.int k i))) (h0 : 0 ≤ i) (hc : b[i.toNat]? = some c) :
    QOp P w0 n s ev ⟨dst, .index t y z, ty, pos, after, g⟩ (.d (.v (.int .u8 c.toNat))) :=
  .mk fun a w ok blk val h _ hnew => by
    have h1 : a.eval y = .string b := RepT.v_eq (hy ▸ h y)
    have h2 : a.eval z = .int k i := RepT.v_eq (hz ▸ h z)
    exact ⟨_, w, by simp [execOp, Instr.index, h1, h2, asIntOf, run_underlying (isStr_under ht), h0, hc], Ext.refl w, .v _ rfl⟩
def arB (P : Program) (t m e sz : Nat) : Bool := (match P.underlying t with | some (.array m' e') => m' == m && e' == e | _ => false) && (match P.info? e with | some i => i.size == sz | none => false)
theorem arB_under {t m e sz : Nat} (h : arB P t m e sz = true) : P.underlying t = some (.array m e) := by
  simp only [arB, Bool.and_eq_true] at h
  cases hu : P.underlying t with
  | none => simp [hu] at h
  | some d => cases d <;> simp [hu] at h <;> rw [h.1.1, h.1.2]
theorem arB_info {t m e sz : Nat} (h : arB P t m e sz = true) : ∃ i, P.info? e = some i ∧ i.size = sz := by
  simp only [arB, Bool.and_eq_true] at h
  cases hu : P.info? e with
  | none => simp [hu] at h
  | some d => simp [hu] at h; exact ⟨d, rfl, h.2⟩
theorem run_indexAt_ar {t m e sz b o : Nat} {i : Int} {k : IntKind} (h : arB P t m e sz = true) (h0 : 0 ≤ i) (h1 : i < m) (w : World) :
    (Instr.indexAt t (.pointer (some ⟨b, o, none⟩)) (.int k i)).run P w = .ok (.pointer (some ⟨b, o + i.toNat * sz, none⟩)) w := by
  obtain ⟨inf, hi, hs⟩ := arB_info h
  simp [Instr.indexAt, asIntOf, run_underlying (arB_under h), Instr.sureAddr, h0, h1, sizeOf, my_typeInfo hi, hs, addr_add]
theorem q_indexAddr_ar {t : TypeId} {y z : Operand} {m e sz o : Nat} {cs : List D} {i : Int} {k : IntKind} (ht : arB P t m e sz = true) (hy : ev y = .d (.pt cs o)) (hz : ev z = .d (.v (.int k i))) (h0 : 0 ≤ i) (h1 : i < m) : QOp P w0 n s ev ⟨dst, .indexAddr t y z, ty, pos, after, g⟩ (.d (.pt cs (o + i.toNat * sz))) :=
  .mk fun a w ok blk val h _ hnew => by
    obtain ⟨b, of, vs, hv, hb, hok, hs, hc, hr⟩ := pt_inv (show Rep w _ (.pt cs o) (a.eval y) by have := h y; rw [hy] at this; exact this)
    have h2 : a.eval z = .int k i := RepT.v_eq (hz ▸ h z)
    refine ⟨.pointer (some ⟨b, of + (o + i.toNat * sz), none⟩), w, ?_, Ext.refl w, Rep.pt cs _ b of vs hb hok hs hc hr⟩
    simp [execOp, hv, h2, run_indexAt_ar ht h0 h1, Nat.add_assoc]
theorem q_indexAddr_aref {t : TypeId} {y z : Operand} {m e sz o q : Nat} {i : Int} {k : IntKind} (ht : arB P t m e sz = true) (hy : ev y = .ref q o) (hz : ev z = .d (.v (.int k i))) (h0 : 0 ≤ i) (h1 : i < m) : QOp P w0 n s ev ⟨dst, .indexAddr t y z, ty, pos, after, g⟩ (.ref q (o + i.toNat * sz)) :=
  .mk fun a w ok blk val h _ hnew => by
    have := h y
    rw [hy] at this
    obtain ⟨hq, b, hb, hv⟩ := this
    have h2 : a.eval z = .int k i := RepT.v_eq (hz ▸ h z)
    refine ⟨.pointer (some ⟨b, o + i.toNat * sz, none⟩), w, ?_, Ext.refl w, ⟨hq, b, hb, rfl⟩⟩
    simp [execOp, hv, h2, run_indexAt_ar ht h0 h1]
theorem q_indexAddr_rs {t : TypeId} {y z : Operand} {e e' sz q : Nat} {es : List (List D)} {i : Int} {k : IntKind} (ht : slB P t e sz = true) (hy : ev y = .rs q) (hq : s q = .row e' sz es) (hz : ev z = .d (.v (.int k i))) (h0 : 0 ≤ i) (h1 : i < es.length) : QOp P w0 n s ev ⟨dst, .indexAddr t y z, ty, pos, after, g⟩ (.ref q (i.toNat * sz)) :=
  .mk fun a w ok blk val h hs hnew => by
    have := h y
    rw [hy] at this
    obtain ⟨_, hv⟩ := this
    have h2 : a.eval z = .int k i := RepT.v_eq (hz ▸ h z)
    have h3 := hs q
    rw [hq] at h3
    obtain ⟨_, _, h4⟩ := h3
    rcases h4 with ⟨_, he, _⟩ | ⟨b, vals, cap, hb, hval, _⟩
    · subst he; simp at h1; omega
    · refine ⟨.pointer (some ⟨b, 0 + i.toNat * sz, none⟩), w, ?_, Ext.refl w, ⟨by rw [hq]; simp, b, hb, by simp⟩⟩
      simp [execOp, hv, hval, h2, run_indexAt_sl ht h0 h1]
theorem q_load_ref {t : TypeId} {y : Operand} {m q o : Nat} {cs : List D} {d : D} (ht : szB P t false m = true) (hy : ev y = .ref q o) (hq : s q = .box cs) (hd : cs[o]? = some d) : QOp P w0 n s ev ⟨dst, .load t y, ty, pos, after, g⟩ (.d d) :=
  .mk fun a w ok blk val h hs hnew => by
    have h1 := h y
    rw [hy] at h1
    obtain ⟨_, b, hb, hv⟩ := h1
    have h2 := hs q
    rw [hq] at h2
    obtain ⟨b', e, vals, hb', hheap, hsz, hsc, hc⟩ := h2
    rw [hb] at hb'; cases hb'
    obtain ⟨v, hv0, hr⟩ := hc o d hd
    refine ⟨v, w, ?_, Ext.refl w, hr⟩
    have hcell : w.cell? ⟨b, o, none⟩ = some v := by rw [cell_of_block hheap]; exact hv0
    simp [execOp, hv, Instr.loadAt, Instr.sureAddr, loadVar, szB_agg ht, hcell]
theorem q_load_refA {t : TypeId} {y : Operand} {m q o : Nat} {cs ds : List D} (ht : szB P t true m = true) (hy : ev y = .ref q o) (hq : s q = .box cs) (hd : (cs.drop o).take m = ds) (hl : ds.length = m) : QOp P w0 n s ev ⟨dst, .load t y, ty, pos, after, g⟩ (.d (.agg ds)) :=
  .mk fun a w ok blk val h hs hnew => by
    subst hd
    have h1 := h y
    rw [hy] at h1
    obtain ⟨_, b, hb, hv⟩ := h1
    have h2 := hs q
    rw [hq] at h2
    obtain ⟨b', e, vals, hb', hheap, hsz, hsc, hc⟩ := h2
    rw [hb] at hb'; cases hb'
    have hget : ∀ (j : Nat) (d : D), ((cs.drop o).take m)[j]? = some d → cs[o + j]? = some d := fun j d hj => by
      rw [List.getElem?_take] at hj
      split at hj
      · simpa [List.getElem?_drop] using hj
      · cases hj
    have hj : ∀ j, j < m → ∃ d, ((cs.drop o).take m)[j]? = some d := fun j hj => ⟨_, List.getElem?_eq_getElem (by omega)⟩
    have hrun := run_loadCells (P := P) w ⟨b, o, none⟩ m (fun j => vals.getD (o + j) undef) (fun j hjm => by
      obtain ⟨d, hd⟩ := hj j hjm
      obtain ⟨v, hv, _⟩ := hc _ d (hget j d hd)
      rw [addr_add, cell_of_block hheap, hv, getD_val hv])
    refine ⟨.agg ((List.range m).map fun j => vals.getD (o + j) undef).toArray, w, ?_, Ext.refl w, ?_⟩
    · simp only [execOp, hv, Instr.loadAt, Instr.sureAddr, loadVar, Sem.run_bind, Sem.run_pure, Result.andThen_ok, szB_agg ht, if_true, szB_size ht, hrun]
    · refine Rep.agg _ _ (by simpa using hl.symm) (fun j d hd => hsc _ d (hget j d hd)) fun j d v hd hv => ?_
      have hjm : j < m := by have := (List.getElem?_eq_some_iff.1 hv).1; simpa using this
      simp [hjm] at hv
      subst hv
      obtain ⟨v, hv, hr⟩ := hc _ d (hget j d hd)
      have := getD_val hv
      simp [Array.getD_eq_getD_getElem?] at this
      rw [this]; exact hr
theorem q_load_row {t : TypeId} {y : Operand} {m q o e sz i j : Nat} {es : List (List D)} {x : List D} {d : D} (ht : szB P t false m = true) (hy : ev y = .ref q o) (hq : s q = .row e sz es) (ho : o = i * sz + j) (hx : es[i]? = some x) (hd : x[j]? = some d) : QOp P w0 n s ev ⟨dst, .load t y, ty, pos, after, g⟩ (.d d) :=
  .mk fun a w ok blk val h hs hnew => by
    subst ho
    have h1 := h y
    rw [hy] at h1
    obtain ⟨_, b, hb, hv⟩ := h1
    have h2 := hs q
    rw [hq] at h2
    obtain ⟨_, _, h3⟩ := h2
    rcases h3 with ⟨hb0, _⟩ | ⟨b', vals, cap, hb', _, _, _, hheap, _, hc⟩
    · rw [hb] at hb0; cases hb0
    rw [hb] at hb'; cases hb'
    obtain ⟨v, hv0, hr⟩ := hc i x j d hx hd
    refine ⟨v, w, ?_, Ext.refl w, hr⟩
    have hcell : w.cell? ⟨b, i * sz + j, none⟩ = some v := by rw [cell_of_block hheap]; exact hv0
    simp [execOp, hv, Instr.loadAt, Instr.sureAddr, loadVar, szB_agg ht, hcell]
theorem q_nilCheck {y : Operand} {cs : List D} {o : Nat} (hy : ev y = .d (.pt cs o)) : QOp P w0 n s ev ⟨dst, .nilCheck y, ty, pos, after, g⟩ (.d (.pt cs o)) :=
  .mk fun a w ok blk val h _ hnew => by
    have hr := show Rep w _ (.pt cs o) (a.eval y) by have := h y; rw [hy] at this; exact this
    obtain ⟨b, off, vs, hv, _⟩ := pt_inv hr
    exact ⟨a.eval y, w, by simp [execOp, hv], Ext.refl w, hr⟩
theorem q_nilCheck_ref {y : Operand} {q o : Nat} (hy : ev y = .ref q o) : QOp P w0 n s ev ⟨dst, .nilCheck y, ty, pos, after, g⟩ (.ref q o) :=
  .mk fun a w ok blk val h _ hnew => by
    have h1 := h y
    rw [hy] at h1
    have h2 := h1
    obtain ⟨_, b, hb, hv⟩ := h1
    exact ⟨a.eval y, w, by simp [execOp, hv], Ext.refl w, h2⟩
theorem q_makeFunc {f : FuncId} {ys : List Operand} {ds : List D} (ha : ArgsD ev ys ds) : QOp P w0 n s ev ⟨dst, .makeFunc (.func f) #[] ys.toArray, ty, pos, after, g⟩ (.d (.fn (.func f) ds)) :=
  .mk fun a w ok blk val h _ hnew => by
    have hL := args_rep h ha
    refine ⟨.func (.func f) #[] (ys.map a.eval).toArray, w, by simp [execOp, Instr.makeFunc], Ext.refl w, ?_⟩
    exact Rep.fn _ _ _ hL.length fun j d v h1 h2 => hL.get j d v h1 h2
def intB (P : Program) (t : TypeId) (k : IntKind) : Bool := match P.underlying t with | some (.int k') => k' == k | _ => false
theorem intB_under {t : TypeId} {k : IntKind} (h : intB P t k = true) : P.underlying t = some (.int k) := by
  unfold intB at h
  cases hu : P.underlying t with
  | none => simp [hu] at h
  | some d => cases d <;> simp [hu] at h ⊢; exact h
theorem q_convi {t t' : TypeId} {y : Operand} {k k' : IntKind} {i : Int} (ht : intB P t k' = true) (ht' : intB P t' k = true) (hy : ev y = .d (.v (.int k' i))) : QOp P w0 n s ev ⟨dst, .convert t t' y, ty, pos, after, g⟩ (.d (.v (.int k (k.wrap i)))) :=
  .mk fun a w ok blk val h _ hnew => by
    have h1 : a.eval y = .int k' i := RepT.v_eq (hy ▸ h y)
    exact ⟨_, w, by simp [execOp, convert, run_underlying (intB_under ht), run_underlying (intB_under ht'), h1, Conv.intToInt], Ext.refl w, .v _ rfl⟩
theorem q_field {t : TypeId} {y : Operand} {f off m : Nat} {ft : TypeId} {cs : List D} {d : D} (ht : (match P.underlying t with | some (.struct fs) => (fs[f]?).map (fun fd => (fd.offset, fd.type)) | _ => none) = some (off, ft)) (hs : szB P ft false m = true) (hy : ev y = .d (.agg cs)) (hd : cs[off]? = some d) : QOp P w0 n s ev ⟨dst, .field t y f, ty, pos, after, g⟩ (.d d) :=
  .mk fun a w ok blk val h _ hnew => by
    obtain ⟨vs, hv, hL, _⟩ := agg_inv (show Rep w _ (.agg cs) (a.eval y) by have := h y; rw [hy] at this; exact this)
    obtain ⟨v, hvi, hr⟩ := hL.at_ hd
    refine ⟨v, w, ?_, Ext.refl w, hr⟩
    cases hu : P.underlying t with
    | none => simp [hu] at ht
    | some q =>
      cases q <;> simp only [hu, reduceCtorEq] at ht
      rename_i fs
      cases hf : fs[f]? with
      | none => simp [hf] at ht
      | some fd =>
        simp only [hf, Option.map_some, Option.some.injEq, Prod.mk.injEq] at ht
        obtain ⟨e1, e2⟩ := ht
        subst e1; subst e2
        simp [execOp, Instr.field, run_underlying hu, hf, hv, asAgg, part, szB_agg hs, hvi]
end
end Go.Proofs.Ytgdcidbpadhkpaa.Am
