/- Contracts over the abstract machine: chapter 9: the search: its map, what it computes. Conditions: none. -/
import Derived.Test.YthpggoophcdgnaaDoorS10
import Derived.Laws.Pointers
set_option linter.unusedVariables false
set_option linter.unusedSimpArgs false
namespace Go.Proofs.YthpggoophcdgnaaDoor.Am.M
open Go

section
variable {P : Program} {w0 : Cx} {n : Nat} {s : Nat → Site} {ev : Operand → T} {dst : Option Tmp} {ty : TypeId} {pos : String} {after : Array Edge} {g : Option (Nat × Bool)}
theorem q_callCG {G : World → Prop} (hG : ∀ w, ExtM w0 w → G w) {fv : Operand} {f : FuncId} {ys : List Operand} {at_ : Array TypeId} {cap ds : List D} {r : D} (he : enB P f = true) (hev : ev fv = .d (.fn (.func f) cap)) (ha : ArgsD ev ys ds) (hr : PCG P G f (ds ++ cap) r) :
    QOp P w0 n s ev ⟨dst, .call ⟨.value fv, ys.toArray, at_⟩, ty, pos, after, g⟩ (.d r) :=
  q_callWG hG hev he hr fun a w okA blk val hy _ => ⟨okA, args_rep hy ha, fun _ _ h => h, .inl fun _ h => h⟩
theorem q_load_tbA {t : TypeId} {y : Operand} {m q o : Nat} {cs : List T} {ds : List D} (ht : szB P t true m = true) (hy : ev y = .ref q o) (hq : s q = .tbox cs) (hd : (cs.drop o).take m = ds.map T.d) (hl : ds.length = m) (hsc : ds.all D.sc = true) : QOp P w0 n s ev ⟨dst, .load t y, ty, pos, after, g⟩ (.d (.agg ds)) :=
  .mk fun a w ok blk val h hs hnew => by
    have h1 := h y
    rw [hy] at h1
    obtain ⟨_, b, hb, hv⟩ := h1
    have h2 := hs q
    rw [hq] at h2
    obtain ⟨b', e, vals, hb', hheap, hsz, hc⟩ := h2
    rw [hb] at hb'; cases hb'
    have hget : ∀ (j : Nat) (d : D), ds[j]? = some d → cs[o + j]? = some (.d d) := fun j d hj => by
      have h3 : (ds.map T.d)[j]? = some (.d d) := by rw [List.getElem?_map, hj]; rfl
      rw [← hd, List.getElem?_take] at h3
      split at h3
      · simpa [List.getElem?_drop] using h3
      · cases h3
    have hj : ∀ j, j < m → ∃ d, ds[j]? = some d := fun j hj => ⟨_, List.getElem?_eq_getElem (by omega)⟩
    have hrun := run_loadCells (P := P) w ⟨b, o, none⟩ m (fun j => vals.getD (o + j) undef) (fun j hjm => by
      obtain ⟨d, hd⟩ := hj j hjm
      obtain ⟨v, hv, _⟩ := hc _ _ (hget j d hd)
      rw [addr_add, cell_of_block hheap, hv, getD_val hv])
    refine ⟨.agg ((List.range m).map fun j => vals.getD (o + j) undef).toArray, w, ?_, Ext.refl w, ?_⟩
    · simp only [execOp, hv, Instr.loadAt, Instr.sureAddr, loadVar, Sem.run_bind, Sem.run_pure, Result.andThen_ok, szB_agg ht, if_true, szB_size ht, hrun]
    · refine Rep.agg _ _ (by simpa using hl.symm) (fun j d hd => List.all_eq_true.1 hsc d (List.mem_of_getElem? hd)) fun j d v hd hv => ?_
      have hjm : j < m := by have := (List.getElem?_eq_some_iff.1 hv).1; simpa using this
      simp [hjm] at hv
      subst hv
      obtain ⟨v, hv, _, hr⟩ := hc _ _ (hget j d hd)
      have := getD_val hv
      simp [Array.getD_eq_getD_getElem?] at this
      rw [this]; exact hr
def ptO : Option Mk → D
  | some m => .pt (mkC m) 0
  | none => .v (.pointer none)
theorem pto_val {w : World} {ok : Nat → Prop} {r : Option Mk} {v : Value} (h : Rep w ok (ptO r) v) : (r = none ∧ v = .pointer none) ∨ ∃ m a, r = some m ∧ v = .pointer (some a) := by
  cases r with
  | none => exact .inl ⟨rfl, Rep.v_eq h⟩
  | some m =>
    obtain ⟨b, of, vs, hv, _⟩ := pt_inv (show Rep w ok (.pt (mkC m) 0) v from h)
    exact .inr ⟨m, _, rfl, hv⟩
theorem q_neqO {t t' : TypeId} {x : Operand} {r : Option Mk} (ht : P.underlying t = some (.pointer (P.pointee t))) (hx : ev x = .d (ptO r)) : QOp P w0 n s ev ⟨dst, .binOp .neq t x (.const (.pointer none)) t', ty, pos, after, g⟩ (T.bool r.isSome) :=
  .mk fun a w ok blk val h hs hnew => by
    have h1 := h x
    rw [hx] at h1
    have hn : a.eval (.const (.pointer none)) = .pointer none := rfl
    rcases pto_val (show Rep w ok (ptO r) (a.eval x) from h1) with ⟨rfl, hv⟩ | ⟨m, ad, rfl, hv⟩
    · exact ⟨.bool false, w, by simp [execOp, hv, hn, eqGuard, binOp, run_equal_pointer_nil w t _ ht], Ext.refl w, .v _ rfl⟩
    · exact ⟨.bool true, w, by simp [execOp, hv, hn, eqGuard, binOp, run_equal_pointer_nil w t _ ht], Ext.refl w, .v _ rfl⟩
theorem q_eqlO {t t' : TypeId} {x : Operand} {r : Option Mk} (ht : P.underlying t = some (.pointer (P.pointee t))) (hx : ev x = .d (ptO r)) : QOp P w0 n s ev ⟨dst, .binOp .eql t x (.const (.pointer none)) t', ty, pos, after, g⟩ (T.bool (!r.isSome)) :=
  .mk fun a w ok blk val h hs hnew => by
    have h1 := h x
    rw [hx] at h1
    have hn : a.eval (.const (.pointer none)) = .pointer none := rfl
    rcases pto_val (show Rep w ok (ptO r) (a.eval x) from h1) with ⟨rfl, hv⟩ | ⟨m, ad, rfl, hv⟩
    · exact ⟨.bool true, w, by simp [execOp, hv, hn, eqGuard, binOp, run_equal_pointer_nil w t _ ht], Ext.refl w, .v _ rfl⟩
    · exact ⟨.bool false, w, by simp [execOp, hv, hn, eqGuard, binOp, run_equal_pointer_nil w t _ ht], Ext.refl w, .v _ rfl⟩
end

abbrev Key := Nat × Nat × Nat
abbrev Mem := List (Key × Option Mk)
def stV (k : Key) : List Value := [.int .i64 (k.1 : Int), .int .u64 (k.2.1 : Int), .int .u64 (k.2.2 : Int)]
def IsSt (v : Value) : Prop := ∃ k : Key, v = .agg (stV k).toArray
theorem stV_inj {a b : Key} (h : Value.agg (stV a).toArray = .agg (stV b).toArray) : a = b := by
  obtain ⟨a1, a2, a3⟩ := a
  obtain ⟨b1, b2, b3⟩ := b
  simp only [stV, Value.agg.injEq, Array.mk.injEq, List.cons.injEq, Value.int.injEq, true_and, and_true] at h
  simp only [Prod.mk.injEq]
  omega
theorem keyB : KeyB Tryd.prog 104 IsSt := ⟨fun w em v ⟨k, hv⟩ => by
    subst hv
    have h3 := Tryd.underlying3
    have h73 := Tryd.underlying73
    have h104 := Tryd.underlying104
    have c1 := MapKept.run_checkKey (P := Tryd.prog) (w := w) h3 (k := .int .i64 (k.1 : Int)) rfl em 9998
    have c2 := MapKept.run_checkKey (P := Tryd.prog) (w := w) h73 (k := .int .u64 (k.2.1 : Int)) rfl em 9998
    have c3 := MapKept.run_checkKey (P := Tryd.prog) (w := w) h73 (k := .int .u64 (k.2.2 : Int)) rfl em 9998
    unfold Instr.checkKey
    simp [run_underlying h104, run_underlying h3, run_underlying h73, Result.andThen, part, isAgg, c1, c2, c3, stV], fun w a b ⟨k, ha⟩ ⟨k', hb⟩ => by
    subst ha; subst hb
    obtain ⟨a1, a2, a3⟩ := k
    obtain ⟨b1, b2, b3⟩ := k'
    have h3 := Tryd.underlying3
    have h73 := Tryd.underlying73
    have hf : (Tryd.prog.fieldsOf 104).toList = [⟨ "chosen", 3, 0, false, "", "couplant/code", 0⟩, ⟨ "one", 73, 1, false, "", "couplant/code", 8⟩, ⟨ "two", 73, 2, false, "", "couplant/code", 16⟩] := by kernel_rfl
    refine ⟨(a1 == b1) && ((a2 == b2) && (a3 == b3)), ?_, ?_⟩
    · show (Op.equalIn (9998 + 1 + 1) 104 _ _).run _ w = _
      rw [run_equalIn_struct w (9998 + 1) 104 _ _ (by kernel_rfl) (by kernel_rfl), hf]
      simp [Op.eqFields, part, isAgg, run_underlying h3, run_underlying h73, stV, run_equalIn_int (h := h3), run_equalIn_int (h := h73), Result.andThen]
      (repeat' split) <;> simp_all <;> omega
    · constructor
      · intro h
        simp at h
        obtain ⟨rfl, rfl, rfl⟩ := h
        rfl
      · intro h
        have := stV_inj h
        simp at this
        simp [this], ⟨_, Tryd.underlying104, fun a b _ _ => by cases a <;> cases b <;> rfl⟩⟩
def lookM (k : Key) : Mem → Option (Option Mk)
  | [] => none
  | p :: ps => if k = p.1 then some p.2 else lookM k ps
def encM (es : Mem) : List (Value × D) := es.map fun p => (.agg (stV p.1).toArray, ptO p.2)
theorem look_enc (k : Key) : ∀ es : Mem, lookV (.agg (stV k).toArray) (encM es) = (lookM k es).map ptO
  | [] => rfl
  | p :: ps => by
    show lookV _ ((.agg (stV p.1).toArray, ptO p.2) :: encM ps) = _
    rw [lookV, lookM]
    by_cases h : k = p.1
    · rw [if_pos h, if_pos (by rw [h])]; rfl
    · rw [if_neg h, if_neg (fun q => h (stV_inj q)), look_enc k ps]
theorem enc_keys (es : Mem) : ∀ p ∈ encM es, IsSt p.1 := fun p hp => by
  obtain ⟨q, _, rfl⟩ := List.mem_map.1 hp
  exact ⟨q.1, rfl⟩
theorem lookM_app (k : Key) (es : Mem) (p : Key × Option Mk) (h : k ≠ p.1) : lookM k (es ++ [p]) = lookM k es := by
  induction es with
  | nil => show (if k = p.1 then some p.2 else none) = none; rw [if_neg h]
  | cons q qs ih => simp only [List.cons_append, lookM, ih]
theorem encM_app (es : Mem) (p : Key × Option Mk) : encM (es ++ [p]) = encM es ++ [(.agg (stV p.1).toArray, ptO p.2)] := by unfold encM; rw [List.map_append]; rfl
def loopM (g : Cl → Mem → Option Mk × Mem) : List Cl → Mem → Option Mk × Mem
  | [], es => (none, es)
  | x :: r, es => match (g x es).1 with | some m => (some m, (g x es).2) | none => loopM g r (g x es).2
def lsM (F : Nat → Nat → Bool) (l : List Rw) (b : Bx) : Nat → Nat → Nat → Nat → Mem → Option Mk × Mem
  | 0, _, one, two, es => (if F one two = true then some zMk else none, es)
  | n + 1, c, one, two, es => match lookM (c, one, two) es with
    | some r => (r, es)
    | none => ((loopM (fun x es => ((lsM F l b n (c + 1) (one &&& x.inn) (two &&& x.inn) es).1.map fun m => m.set c x.lo, (lsM F l b n (c + 1) (one &&& x.inn) (two &&& x.inn) es).2)) (cells l c (b.at c) (one ||| two)) es).1,
        (loopM (fun x es => ((lsM F l b n (c + 1) (one &&& x.inn) (two &&& x.inn) es).1.map fun m => m.set c x.lo, (lsM F l b n (c + 1) (one &&& x.inn) (two &&& x.inn) es).2)) (cells l c (b.at c) (one ||| two)) es).2 ++
          [((c, one, two), (loopM (fun x es => ((lsM F l b n (c + 1) (one &&& x.inn) (two &&& x.inn) es).1.map fun m => m.set c x.lo, (lsM F l b n (c + 1) (one &&& x.inn) (two &&& x.inn) es).2)) (cells l c (b.at c) (one ||| two)) es).1)])
def lsG (F : Nat → Nat → Bool) (l : List Rw) (b : Bx) (n c one two : Nat) : Cl → Mem → Option Mk × Mem := fun x es => ((lsM F l b n (c + 1) (one &&& x.inn) (two &&& x.inn) es).1.map fun m => m.set c x.lo, (lsM F l b n (c + 1) (one &&& x.inn) (two &&& x.inn) es).2)
theorem lsM_some {F : Nat → Nat → Bool} {l : List Rw} {b : Bx} {n c one two : Nat} {es : Mem} {r : Option Mk} (h : lookM (c, one, two) es = some r) : lsM F l b (n + 1) c one two es = (r, es) := by rw [lsM, h]
theorem lsM_none {F : Nat → Nat → Bool} {l : List Rw} {b : Bx} {n c one two : Nat} {es es' : Mem} {r : Option Mk} (h : lookM (c, one, two) es = none) (hl : loopM (lsG F l b n c one two) (cells l c (b.at c) (one ||| two)) es = (r, es')) : lsM F l b (n + 1) c one two es = (r, es' ++ [((c, one, two), r)]) := by
  have e : lsM F l b (n + 1) c one two es = ((loopM (lsG F l b n c one two) (cells l c (b.at c) (one ||| two)) es).1, (loopM (lsG F l b n c one two) (cells l c (b.at c) (one ||| two)) es).2 ++ [((c, one, two), (loopM (lsG F l b n c one two) (cells l c (b.at c) (one ||| two)) es).1)]) := by
    rw [lsM, h]; rfl
  rw [e, hl]
theorem loopM_keep {g : Cl → Mem → Option Mk × Mem} {k : Key} (h : ∀ x es, lookM k (g x es).2 = lookM k es) : ∀ (xs : List Cl) (es : Mem), lookM k (loopM g xs es).2 = lookM k es
  | [], _ => rfl
  | x :: r, es => by
    rw [loopM]
    cases hg : (g x es).1 with
    | some m => exact h x es
    | none => exact (loopM_keep h r _).trans (h x es)
theorem lsM_keep (F : Nat → Nat → Bool) (l : List Rw) (b : Bx) : ∀ (n c one two : Nat) (es : Mem) (k : Key), k.1 < c → lookM k (lsM F l b n c one two es).2 = lookM k es
  | 0, _, _, _, _, _, _ => rfl
  | n + 1, c, one, two, es, k, hk => by
    cases h : lookM (c, one, two) es with
    | some r => rw [lsM_some h]
    | none =>
      rw [lsM_none (r := (loopM (lsG F l b n c one two) (cells l c (b.at c) (one ||| two)) es).1) (es' := (loopM (lsG F l b n c one two) (cells l c (b.at c) (one ||| two)) es).2) h rfl]
      show lookM k (_ ++ [_]) = _
      rw [lookM_app _ _ _ (fun q => by rw [q] at hk; exact Nat.lt_irrefl _ hk)]
      exact loopM_keep (g := lsG F l b n c one two) (fun x es => lsM_keep F l b n (c + 1) (one &&& x.inn) (two &&& x.inn) es k (by omega)) _ _
theorem lsG_keep {F : Nat → Nat → Bool} {l : List Rw} {b : Bx} {n c one two : Nat} {es es' : Mem} {r : Option Mk} (h : lookM (c, one, two) es = none) (hl : loopM (lsG F l b n c one two) (cells l c (b.at c) (one ||| two)) es = (r, es')) : lookM (c, one, two) es' = none := by
  have := loopM_keep (g := lsG F l b n c one two) (k := (c, one, two)) (fun x es => lsM_keep F l b n (c + 1) _ _ es _ (Nat.lt_succ_self c)) (cells l c (b.at c) (one ||| two)) es
  rw [hl] at this
  exact this.trans h
end Go.Proofs.YthpggoophcdgnaaDoor.Am.M
