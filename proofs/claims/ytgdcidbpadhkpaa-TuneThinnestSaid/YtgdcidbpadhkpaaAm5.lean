/- The abstract machine, part 5: more operations that compute or read; calls by their contracts on data. Conditions: none. -/
import Derived.Test.YtgdcidbpadhkpaaAm4
import Derived.Lib.ConvBytes
import Derived.Laws.StructEq
set_option linter.unusedVariables false
set_option linter.unusedSimpArgs false
namespace Go.Proofs.Ytgdcidbpadhkpaa.Am
open Go

def RepL (w : World) (ok : Nat → Prop) : List D → List Value → Prop
  | [], [] => True
  | d :: ds, v :: vs => Rep w ok d v ∧ RepL w ok ds vs
  | _, _ => False
/-- A function's contract on data: what it returns stands for r; nothing that was there changes; the result lies where the arguments lie, or in new memory. -/
def PC (P : Program) (f : FuncId) (args : List D) (r : D) : Prop :=
  ∀ (w : World) (ok : Nat → Prop) (vs : List Value), RepL w ok args vs → Calls P f vs.toArray w fun e w' => ∃ v, e = .returned v ∧ Ext w w' ∧ Rep w' (fun b => ok b ∨ w.heap.size ≤ b) r v

def nilS : Value := .slice none 0 0
inductive AsC (s : Nat → Site) : T → D → Prop
  | d (x : D) (h : x.sc = true) : AsC s (.d x) x
  | rs {k e sz : Nat} {es : List (List D)} (h : s k = .row e sz es) : AsC s (.rs k) (.sl sz es)
inductive AsL (s : Nat → Site) : List T → List D → Prop
  | nil : AsL s [] []
  | cons {x : T} {xs : List T} {d : D} {ds : List D} (h : AsC s x d) (hs : AsL s xs ds) : AsL s (x :: xs) (d :: ds)
theorem AsL.at_ {s : Nat → Site} : ∀ {xs : List T} {ds : List D}, AsL s xs ds → xs.length = ds.length ∧ ∀ (j : Nat) (d : D), ds[j]? = some d → ∃ x, xs[j]? = some x ∧ AsC s x d
  | _, _, .nil => ⟨rfl, fun j d h => by simp at h⟩
  | _, _, .cons h hs => by
    obtain ⟨h1, h2⟩ := hs.at_
    refine ⟨by simp [h1], fun j d hd => ?_⟩
    cases j with
    | zero => simp at hd; subst hd; exact ⟨_, rfl, h⟩
    | succ j => obtain ⟨x, hx, hc⟩ := h2 j d (by simpa using hd); exact ⟨x, by simpa using hx, hc⟩
theorem AsC.sc {s : Nat → Site} {x : T} {d : D} (h : AsC s x d) : d.sc = true := by cases h <;> first | assumption | rfl
inductive AsD (s : Nat → Site) : T → D → Prop
  | d (x : D) : AsD s (.d x) x
  | nil (sz : Nat) : AsD s (.d (.v (.slice none 0 0))) (.sl sz [])
  | rs {k e sz : Nat} {es : List (List D)} (h : s k = .row e sz es) : AsD s (.rs k) (.sl sz es)
  | ref {k o : Nat} {cs : List D} (h : s k = .box cs) : AsD s (.ref k o) (.pt cs o)
  | tref {k o : Nat} {cs : List T} {ds : List D} (h : s k = .tbox cs) (hc : AsL s cs ds) : AsD s (.ref k o) (.pt ds o)
inductive Args (ev : Operand → T) (s : Nat → Site) : List Operand → List D → Prop
  | nil : Args ev s [] []
  | cons {y : Operand} {ys : List Operand} {x : D} {xs : List D} (h : AsD s (ev y) x) (hs : Args ev s ys xs) : Args ev s (y :: ys) (x :: xs)
inductive ArgsD (ev : Operand → T) : List Operand → List D → Prop
  | nil : ArgsD ev [] []
  | cons {y : Operand} {ys : List Operand} {x : D} {xs : List D} (h : ev y = .d x) (hs : ArgsD ev ys xs) : ArgsD ev (y :: ys) (x :: xs)
  | consN {y : Operand} {ys : List Operand} {xs : List D} (sz : Nat) (h : ev y = .d (.v (.slice none 0 0))) (hs : ArgsD ev ys xs) : ArgsD ev (y :: ys) (.sl sz [] :: xs)
def FlatAll : List D → Prop
  | [] => True
  | d :: ds => d.Flat ∧ FlatAll ds
theorem FlatAll.mem : ∀ {ds : List D}, FlatAll ds → ∀ d ∈ ds, d.Flat
  | [], _, d, h => by cases h
  | x :: xs, h, d, hd => by
    rcases List.mem_cons.1 hd with rfl | h'
    · exact h.1
    · exact FlatAll.mem h.2 d h'
theorem D.Flat.tupF {cs : List D} (h : FlatAll cs) : (D.tup cs).Flat := .tup cs h.mem
theorem D.Flat.aggF {cs : List D} (h : FlatAll cs) : (D.agg cs).Flat := .agg cs h.mem

section
variable {P : Program} {w0 : Cx} {n : Nat} {s : Nat → Site} {ev : Operand → T} {dst : Option Tmp} {ty : TypeId} {pos : String} {after : Array Edge} {g : Option (Nat × Bool)}

theorem cell_of_block {w : World} {b j : Nat} {vals : Array Value} {e : TypeId} {fr : Nat × Nat} (h : w.heap[b]? = some (.cells vals e fr)) : w.cell? ⟨b, j, none⟩ = vals[j]? := by
  simp [World.cell?, h]
theorem getD_val {vals : Array Value} {j : Nat} {v : Value} (h : vals[j]? = some v) : vals.getD j undef = v := by
  simp [h]

theorem Rep.asC {w : World} {blk : Nat → Option Nat} {val : Nat → Value} {ok ok' : Nat → Prop} {x : T} {d : D} {v : Value} (hx : RepT w ok blk val s x v) (hs : ∀ k, SiteIn w ok blk val s (blk k) (val k) (s k)) (h : AsC s x d) (hok : ∀ b, ok b → ok' b) (hb : ∀ k b, blk k = some b → ok' b) : Rep w ok' d v := by
  cases h with
  | d x _ => exact Rep.ok (hx : Rep w _ _ v) fun _ _ h => hok _ h
  | rs hk =>
    rename_i k e sz es
    obtain ⟨_, hv⟩ := hx
    have h1 := hs k
    rw [hk] at h1
    obtain ⟨a1, a2, a3⟩ := h1
    rcases a3 with ⟨_, he, hval⟩ | ⟨b, vals, cap, hb', hval, hn, hcap, hh, hsz, hc⟩
    · rw [hv, hval, he]; exact .emp sz none 0 (Nat.zero_le _)
    · rw [hv, hval]
      exact .sl sz es b 0 cap (fun i j => vals.getD (i * sz + j) undef) (heap_lt hh) (hb k b hb') hn hcap a1 a2 (fun i x j d hi hj => by
        obtain ⟨v, hv, _⟩ := hc i x j d hi hj
        rw [cell_of_block hh, Nat.zero_add, hv, getD_val hv]) (fun i x j d hi hj => by
        obtain ⟨v, hv, hr⟩ := hc i x j d hi hj
        rw [getD_val hv]; exact hr.ok fun _ _ h => hok _ h)
theorem Rep.as' {w : World} {blk : Nat → Option Nat} {val : Nat → Value} {ok ok' : Nat → Prop} {x : T} {d : D} {v : Value} (hx : RepT w ok blk val s x v) (hs : ∀ k, SiteIn w ok blk val s (blk k) (val k) (s k)) (h : AsD s x d) (hok : ∀ b, ok b → ok' b) (hb : ∀ k b, blk k = some b → ok' b) : Rep w ok' d v := by
  cases h with
  | d x => exact Rep.ok (hx : Rep w _ _ v) fun _ _ h => hok _ h
  | nil sz =>
    have := Rep.v_eq (hx : Rep w _ (.v _) v)
    subst this
    exact .emp sz none 0 (Nat.zero_le _)
  | rs hk =>
    rename_i k e sz es
    obtain ⟨_, hv⟩ := hx
    have h1 := hs k
    rw [hk] at h1
    obtain ⟨a1, a2, a3⟩ := h1
    rcases a3 with ⟨_, he, hval⟩ | ⟨b, vals, cap, hb', hval, hn, hcap, hh, hsz, hc⟩
    · rw [hv, hval, he]; exact .emp sz none 0 (Nat.zero_le _)
    · rw [hv, hval]
      exact .sl sz es b 0 cap (fun i j => vals.getD (i * sz + j) undef) (heap_lt hh) (hb k b hb') hn hcap a1 a2 (fun i x j d hi hj => by
        obtain ⟨v, hv, _⟩ := hc i x j d hi hj
        rw [cell_of_block hh, Nat.zero_add, hv, getD_val hv]) (fun i x j d hi hj => by
        obtain ⟨v, hv, hr⟩ := hc i x j d hi hj
        rw [getD_val hv]; exact hr.ok fun _ _ h => hok _ h)
  | tref hk hc =>
    rename_i k o cs ds
    obtain ⟨_, b, hb', hv⟩ := hx
    have h1 := hs k
    rw [hk] at h1
    obtain ⟨b', e, vals, hb'', hh, hsz, hc'⟩ := h1
    rw [hb'] at hb''; cases hb''
    rw [hv]
    obtain ⟨_, hcl⟩ := hc.at_
    have := Rep.pt (ok := ok') ds o b 0 (fun j => vals.getD j undef) (heap_lt hh) (hb k b hb') (fun j d hd => by obtain ⟨x, _, h⟩ := hcl j d hd; exact h.sc) (fun j d hd => by
      obtain ⟨x, hx, _⟩ := hcl j d hd
      obtain ⟨v, hv, _⟩ := hc' j x hx
      rw [cell_of_block hh, Nat.zero_add, hv, getD_val hv]) (fun j d hd => by
      obtain ⟨x, hx, hxd⟩ := hcl j d hd
      obtain ⟨v, hv, _, hr⟩ := hc' j x hx
      rw [getD_val hv]; exact Rep.asC hr hs hxd hok hb)
    simpa using this
  | ref hk =>
    rename_i k o cs
    obtain ⟨_, b, hb', hv⟩ := hx
    have h1 := hs k
    rw [hk] at h1
    obtain ⟨b', e, vals, hb'', hh, hsz, hsc, hc⟩ := h1
    rw [hb'] at hb''; cases hb''
    rw [hv]
    have := Rep.pt (ok := ok') cs o b 0 (fun j => vals.getD j undef) (heap_lt hh) (hb k b hb') hsc (fun j d hd => by
      obtain ⟨v, hv, _⟩ := hc j d hd
      rw [cell_of_block hh, Nat.zero_add, hv, getD_val hv]) (fun j d hd => by
      obtain ⟨v, hv, hr⟩ := hc j d hd
      rw [getD_val hv]; exact hr.ok fun _ _ h => hok _ h)
    simpa using this

theorem Rep.as {w : World} {blk : Nat → Option Nat} {val : Nat → Value} {ok : Nat → Prop} {x : T} {d : D} {v : Value} (hx : RepT w ok blk val s x v) (hs : ∀ k, SiteIn w ok blk val s (blk k) (val k) (s k)) (h : AsD s x d) : Rep w (fun _ => True) d v :=
  Rep.as' hx hs h (fun _ _ => trivial) (fun _ _ _ => trivial)

def enB (P : Program) (f : FuncId) : Bool := match P.funcs[f]? with | some fn => fn.name != "runtime.NumGoroutine" && fn.body.isSome | none => false
theorem run_callFunc {f : FuncId} (h : enB P f = true) (args : Array Value) (w : World) : (callFunc f args).run P w = .ok (.enter f args) w := by
  unfold enB at h
  cases hf : P.funcs[f]? with
  | none => simp [hf] at h
  | some fn =>
    simp only [hf, Bool.and_eq_true, bne_iff_ne, ne_eq] at h
    obtain ⟨h1, h2⟩ := h
    have hb : ∃ c, fn.body = some c := Option.isSome_iff_exists.1 h2
    obtain ⟨c, hc⟩ := hb
    simp [callFunc, hf, h1, hc]
theorem run_callValue {o : Oper} {a : Act} {w : World} {fv : Operand} {args : Array Operand} {at_ : Array TypeId} {f : FuncId} {cap : Array Value} (ho : o.op = .call ⟨.value fv, args, at_⟩) (hf : a.eval fv = .func (.func f) #[] cap) (h : enB P f = true) :
    (execOp a.eval o).run P w = .ok (.enter f (args.map a.eval ++ cap)) w := by
  simp [execOp, ho, resolve, hf, Deferred.ofValue, invoke, run_callFunc h]

theorem args_rep {a : Act} {w : World} {blk : Nat → Option Nat} {val : Nat → Value} {ok : Nat → Prop} (hy : ∀ y, RepT w ok blk val s (ev y) (a.eval y)) : ∀ {ys : List Operand} {ds : List D}, ArgsD ev ys ds → RepL w ok ds (ys.map a.eval)
  | _, _, .nil => trivial
  | _, _, .cons (y := y) h hs => ⟨by have := hy y; rw [h] at this; exact this, args_rep hy hs⟩
  | _, _, .consN (y := y) sz h hs => ⟨by
      have := hy y; rw [h] at this
      rw [Rep.v_eq (this : Rep w _ (.v _) _)]
      exact .emp sz none 0 (Nat.zero_le _), args_rep hy hs⟩
theorem args_repF {a : Act} {w : World} {blk : Nat → Option Nat} {val : Nat → Value} {ok : Nat → Prop} (hy : ∀ y, RepT w ok blk val s (ev y) (a.eval y)) (hs : ∀ k, SiteIn w ok blk val s (blk k) (val k) (s k)) : ∀ {ys : List Operand} {ds : List D}, Args ev s ys ds → RepL w (fun _ => True) ds (ys.map a.eval)
  | _, _, .nil => trivial
  | _, _, .cons (y := y) h h' => ⟨Rep.as (hy y) hs h, args_repF hy hs h'⟩
theorem RepL.append {w : World} {ok : Nat → Prop} : ∀ {ds : List D} {vs : List Value} {ds' : List D} {vs' : List Value}, RepL w ok ds vs → RepL w ok ds' vs' → RepL w ok (ds ++ ds') (vs ++ vs')
  | [], [], _, _, _, h => h
  | _ :: _, _ :: _, _, _, h, h' => ⟨h.1, h.2.append h'⟩
  | [], _ :: _, _, _, h, _ => h.elim
  | _ :: _, [], _, _, h, _ => h.elim
theorem RepL.length {w : World} {ok : Nat → Prop} : ∀ {ds : List D} {vs : List Value}, RepL w ok ds vs → vs.length = ds.length
  | [], [], _ => rfl
  | _ :: _, _ :: _, h => by simp [h.2.length]
  | [], _ :: _, h => h.elim
  | _ :: _, [], h => h.elim
theorem RepL.of {w : World} {ok : Nat → Prop} : ∀ {ds : List D} {vs : List Value}, vs.length = ds.length → (∀ (j : Nat) (d : D) (v : Value), ds[j]? = some d → vs[j]? = some v → Rep w ok d v) → RepL w ok ds vs
  | [], [], _, _ => trivial
  | d :: ds, v :: vs, hl, h => ⟨h 0 d v rfl rfl, RepL.of (by simpa using hl) fun j d v h1 h2 => h (j + 1) d v (by simpa using h1) (by simpa using h2)⟩
  | [], _ :: _, h, _ => by simp at h
  | _ :: _, [], h, _ => by simp at h
theorem RepL.get {w : World} {ok : Nat → Prop} : ∀ {ds : List D} {vs : List Value}, RepL w ok ds vs → ∀ (j : Nat) (d : D) (v : Value), ds[j]? = some d → vs[j]? = some v → Rep w ok d v
  | [], [], _, j, _, _, h, _ => by simp at h
  | _ :: _, _ :: _, h, 0, d, v, h1, h2 => by simp at h1 h2; subst h1; subst h2; exact h.1
  | _ :: _, _ :: _, h, j + 1, d, v, h1, h2 => h.2.get j d v (by simpa using h1) (by simpa using h2)
  | [], _ :: _, h, _, _, _, _, _ => h.elim
  | _ :: _, [], h, _, _, _, _, _ => h.elim
theorem fn_inv {w : World} {ok : Nat → Prop} {f : Fn} {cap : List D} {v : Value} (h : Rep w ok (.fn f cap) v) : ∃ vs : List Value, v = .func f #[] vs.toArray ∧ RepL w ok cap vs := by
  generalize hd : D.fn f cap = x at h
  cases h with
  | fn f cap vs hl hr => cases hd; exact ⟨vs, rfl, RepL.of hl hr⟩
  | _ => cases hd

theorem q_callW {fv : Operand} {ys : List Operand} {at_ : Array TypeId} {f : FuncId} {cap ds : List D} {r : D} (hf : ev fv = .d (.fn (.func f) cap)) (he : enB P f = true) (hr : PC P f (ds ++ cap) r)
    (hok : ∀ (a : Act) (w : World) (okA : Nat → Prop) (blk : Nat → Option Nat) (val : Nat → Value), (∀ y, RepT w okA blk val s (ev y) (a.eval y)) → (∀ k, SiteIn w okA blk val s (blk k) (val k) (s k)) → ∃ ok : Nat → Prop, RepL w ok ds (ys.map a.eval) ∧ (∀ b, b < w.heap.size → okA b → ok b) ∧ ((∀ b, ok b → okA b) ∨ r.Flat)) :
    QOp P w0 n s ev ⟨dst, .call ⟨.value fv, ys.toArray, at_⟩, ty, pos, after, g⟩ (.d r) := by
  intro st a w ⟨blk, val, hh⟩ hs hn hev hd
  obtain ⟨blk', hy, hsite, _⟩ := QOp.core hh hs hev
  obtain ⟨ok, hargs, hmono, hres⟩ := hok a w (okOf w0 blk) blk' val hy hsite
  obtain ⟨vs, hv, hcap⟩ := fn_inv (show Rep w _ (.fn (.func f) cap) (a.eval fv) by have := hy fv; rw [hf] at this; exact this)
  have hcap' : RepL w ok cap vs := RepL.of hcap.length fun j d v h1 h2 => (hcap.get j d v h1 h2).ok hmono
  unfold Oper.wp
  rw [run_callValue rfl hv he]
  have hc := hr w ok (ys.map a.eval ++ vs) (hargs.append hcap')
  have harr : ((ys.map a.eval ++ vs).toArray : Array Value) = ys.toArray.map a.eval ++ vs.toArray := by simp
  rw [harr] at hc
  refine hc.mono ?_
  rintro e w' ⟨v, rfl, hE, hR⟩
  refine ⟨blk, val, (hh.ext' hE).put dst (.d r) v (fun d h => by rw [hn]; exact hd d h) ?_⟩
  rcases hres with h1 | h1
  · refine Rep.ok hR fun b _ hb => ?_
    rcases hb with hb | hb
    · exact h1 b hb
    · exact ⟨.inr (Nat.le_trans hh.ext.size hb), fun k hk => by have := (hh.new k b hk).2; omega⟩
  · exact Rep.flat hR h1
theorem q_call {f : FuncId} {ys : List Operand} {at_ : Array TypeId} {ds : List D} {r : D} (he : enB P f = true) (ha : ArgsD ev ys ds) (hev : ev (.func f) = .d (.fn (.func f) [])) (hr : PC P f ds r) :
    QOp P w0 n s ev ⟨dst, .call ⟨.value (.func f), ys.toArray, at_⟩, ty, pos, after, g⟩ (.d r) :=
  q_callW (cap := []) (ds := ds) hev he (by simpa using hr) fun a w okA blk val hy _ => ⟨okA, args_rep hy ha, fun _ _ h => h, .inl fun _ h => h⟩
theorem q_callF {f : FuncId} {ys : List Operand} {at_ : Array TypeId} {ds : List D} {r : D} (he : enB P f = true) (ha : Args ev s ys ds) (hev : ev (.func f) = .d (.fn (.func f) [])) (hr : PC P f ds r) (hf : r.Flat) :
    QOp P w0 n s ev ⟨dst, .call ⟨.value (.func f), ys.toArray, at_⟩, ty, pos, after, g⟩ (.d r) :=
  q_callW (cap := []) (ds := ds) hev he (by simpa using hr) fun a w okA blk val hy hs => ⟨fun _ => True, args_repF hy hs ha, fun _ _ _ => trivial, .inr hf⟩
theorem q_callC {fv : Operand} {f : FuncId} {ys : List Operand} {at_ : Array TypeId} {cap ds : List D} {r : D} (he : enB P f = true) (hev : ev fv = .d (.fn (.func f) cap)) (ha : ArgsD ev ys ds) (hr : PC P f (ds ++ cap) r) :
    QOp P w0 n s ev ⟨dst, .call ⟨.value fv, ys.toArray, at_⟩, ty, pos, after, g⟩ (.d r) :=
  q_callW hev he hr fun a w okA blk val hy _ => ⟨okA, args_rep hy ha, fun _ _ h => h, .inl fun _ h => h⟩

theorem new_block (w : World) (o : Obj) : (w.alloc o).heap[w.heap.size]? = some o := heap_alloc_new w o
theorem tup_inv {w : World} {ok : Nat → Prop} {cs : List D} {v : Value} (h : Rep w ok (.tup cs) v) : ∃ vs : List Value, v = .tuple vs.toArray ∧ RepL w ok cs vs := by
  generalize hd : D.tup cs = x at h
  cases h with
  | tup cs vs hl hr => cases hd; exact ⟨vs, rfl, RepL.of hl hr⟩
  | _ => cases hd
theorem agg_inv {w : World} {ok : Nat → Prop} {cs : List D} {v : Value} (h : Rep w ok (.agg cs) v) : ∃ vs : List Value, v = .agg vs.toArray ∧ RepL w ok cs vs ∧ ∀ (j : Nat) (d : D), cs[j]? = some d → d.sc = true := by
  generalize hd : D.agg cs = x at h
  cases h with
  | agg cs vs hl hs hr => cases hd; exact ⟨vs, rfl, RepL.of hl hr, hs⟩
  | _ => cases hd
theorem RepL.at_ {w : World} {ok : Nat → Prop} {ds : List D} {vs : List Value} (h : RepL w ok ds vs) {j : Nat} {d : D} (hd : ds[j]? = some d) : ∃ v, vs[j]? = some v ∧ Rep w ok d v := by
  have hj := (List.getElem?_eq_some_iff.1 hd).1
  have : j < vs.length := by rw [h.length]; exact hj
  exact ⟨vs[j], List.getElem?_eq_getElem this, h.get j d _ hd (List.getElem?_eq_getElem this)⟩
theorem q_extract {y : Operand} {i : Nat} {cs : List D} {d : D} (hy : ev y = .d (.tup cs)) (hd : cs[i]? = some d) : QOp P w0 n s ev ⟨dst, .extract y i, ty, pos, after, g⟩ (.d d) :=
  .mk fun a w ok blk val h _ hnew => by
    obtain ⟨vs, hv, hL⟩ := tup_inv (show Rep w _ (.tup cs) (a.eval y) by have := h y; rw [hy] at this; exact this)
    obtain ⟨v, hvi, hr⟩ := hL.at_ hd
    refine ⟨v, w, ?_, Ext.refl w, hr⟩
    simp [execOp, hv, Instr.extract, hvi]
/-- The cells of a value that is no tuple. -/
theorem cells_inv {w : World} {ok : Nat → Prop} {d : D} {v : Value} (h : Rep w ok d v) (hd : d.sc = true ∨ ∃ cs, d = .agg cs) : RepL w ok d.cells v.cells.toList ∧ ∀ (j : Nat) (x : D), d.cells[j]? = some x → x.sc = true := by
  rcases hd with hd | ⟨cs, rfl⟩
  · have h1 : d.cells = [d] := by cases d <;> first | rfl | cases hd
    have h2 : v.cells = #[v] := by
      have := h.one hd
      cases v <;> first | rfl | cases this
    rw [h1, h2]
    exact ⟨⟨h, trivial⟩, fun j x hx => by
      cases j with
      | zero => simp at hx; subst hx; exact hd
      | succ j => simp at hx⟩
  · obtain ⟨vs, rfl, hL, hs⟩ := agg_inv h
    exact ⟨by simpa [Value.cells, D.cells] using hL, hs⟩
theorem q_box {e : TypeId} {y : Operand} {d : D} (hy : ev y = .d d) (hd : d.sc = true ∨ ∃ cs, d = .agg cs) : QOp P w0 n s ev ⟨dst, .box e y, ty, pos, after, g⟩ (.d (.pt d.cells 0)) :=
  .mk fun a w ok blk val h _ hnew => by
    have hr : Rep w (ok) d (a.eval y) := by have := h y; rw [hy] at this; exact this
    obtain ⟨hL, hs⟩ := cells_inv hr hd
    have hE : Ext w (w.alloc (.cells (a.eval y).cells e)) := (Ext.refl w).alloc _
    refine ⟨.pointer (some ⟨w.heap.size, 0, none⟩), w.alloc (.cells (a.eval y).cells e), by simp [execOp, Instr.box, newVar, newRow], hE, ?_⟩
    have := Rep.pt (w := w.alloc (.cells (a.eval y).cells e)) (ok := ok) d.cells 0 w.heap.size 0 (fun j => (a.eval y).cells.getD j undef) (by simp) (hnew _ (Nat.le_refl _)) hs (fun j x hx => by
      obtain ⟨v, hv, _⟩ := hL.at_ hx
      rw [cell_of_block (new_block _ _), Nat.zero_add]
      have hv' : (a.eval y).cells[j]? = some v := by simpa using hv
      rw [hv', getD_val hv']) (fun j x hx => by
      obtain ⟨v, hv, hr⟩ := hL.at_ hx
      have hv' : (a.eval y).cells[j]? = some v := by simpa using hv
      rw [getD_val hv']; exact hr.ext hE fun _ _ h => h)
    show Rep _ _ _ _
    simpa using this
end
end Go.Proofs.Ytgdcidbpadhkpaa.Am
