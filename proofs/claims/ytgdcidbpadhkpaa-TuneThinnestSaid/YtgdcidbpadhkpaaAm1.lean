/- The abstract machine, part 1: data without addresses, how values represent it, states, and how they hold of the model. Conditions: none. -/
import Derived.StillTail
import Derived.Below
import Derived.KernelRfl
import Derived.Maps.AppendAt
import Derived.Test.YtgdcidbpadhkpaaReg
set_option linter.unusedVariables false
set_option linter.unusedSimpArgs false
namespace Go.Proofs.Ytgdcidbpadhkpaa.Am
open Go

/-- Data that nothing changes: a plain value, a slice by its elements (each by its cells), a pointer into a row of cells, a function value, an aggregate, results. -/
inductive D where
  | v (x : Value)
  | sl (sz : Nat) (es : List (List D))
  | pt (cs : List D) (o : Nat)
  | fn (f : Fn) (cap : List D)
  | agg (cs : List D)
  | tup (cs : List D)
deriving Inhabited

/-- One cell's data. -/
def D.sc : D → Bool
  | .agg _ | .tup _ => false
  | _ => true
def D.cells : D → List D
  | .agg cs => cs
  | d => [d]

/-- A value stands for data, in blocks that are 'ok'. -/
inductive Rep (w : World) (ok : Nat → Prop) : D → Value → Prop
  | v (x : Value) (h : x.oneCell' = true) : Rep w ok (.v x) x
  | emp (sz : Nat) (A : Option Addr) (cap : Nat) (h : cap ≤ maxLen) : Rep w ok (.sl sz []) (.slice A 0 cap)
  | sl (sz : Nat) (es : List (List D)) (b off cap : Nat) (vs : Nat → Nat → Value) (hb : b < w.heap.size) (hok : ok b) (hn : es.length ≤ cap) (hcap : cap ≤ maxLen)
      (hsz : ∀ (i : Nat) (e : List D), es[i]? = some e → e.length = sz)
      (hs : ∀ (i : Nat) (e : List D) (j : Nat) (d : D), es[i]? = some e → e[j]? = some d → d.sc = true)
      (hc : ∀ (i : Nat) (e : List D) (j : Nat) (d : D), es[i]? = some e → e[j]? = some d → w.cell? ⟨b, off + i * sz + j, none⟩ = some (vs i j))
      (hr : ∀ (i : Nat) (e : List D) (j : Nat) (d : D), es[i]? = some e → e[j]? = some d → Rep w ok d (vs i j)) : Rep w ok (.sl sz es) (.slice (some ⟨b, off, none⟩) es.length cap)
  | pt (cs : List D) (o b off : Nat) (vs : Nat → Value) (hb : b < w.heap.size) (hok : ok b)
      (hs : ∀ (j : Nat) (d : D), cs[j]? = some d → d.sc = true)
      (hc : ∀ (j : Nat) (d : D), cs[j]? = some d → w.cell? ⟨b, off + j, none⟩ = some (vs j))
      (hr : ∀ (j : Nat) (d : D), cs[j]? = some d → Rep w ok d (vs j)) : Rep w ok (.pt cs o) (.pointer (some ⟨b, off + o, none⟩))
  | fn (f : Fn) (cap : List D) (vs : List Value) (hl : vs.length = cap.length)
      (hr : ∀ (j : Nat) (d : D) (v : Value), cap[j]? = some d → vs[j]? = some v → Rep w ok d v) : Rep w ok (.fn f cap) (.func f #[] vs.toArray)
  | agg (cs : List D) (vs : List Value) (hl : vs.length = cs.length) (hs : ∀ (j : Nat) (d : D), cs[j]? = some d → d.sc = true)
      (hr : ∀ (j : Nat) (d : D) (v : Value), cs[j]? = some d → vs[j]? = some v → Rep w ok d v) : Rep w ok (.agg cs) (.agg vs.toArray)
  | tup (cs : List D) (vs : List Value) (hl : vs.length = cs.length)
      (hr : ∀ (j : Nat) (d : D) (v : Value), cs[j]? = some d → vs[j]? = some v → Rep w ok d v) : Rep w ok (.tup cs) (.tuple vs.toArray)

theorem Rep.one {w : World} {ok : Nat → Prop} {d : D} {v : Value} (h : Rep w ok d v) (hs : d.sc = true) : v.oneCell' = true := by
  cases h <;> first | assumption | rfl | cases hs

theorem cell_block {w : World} {a : Addr} {v : Value} (h : w.cell? a = some v) : ∃ o, w.heap[a.block]? = some o := by
  unfold World.cell? at h
  cases hh : w.heap[a.block]? with
  | none => rw [hh] at h; cases h
  | some o => exact ⟨o, rfl⟩
theorem cell_keep {w w' : World} {a : Addr} {v : Value} (hA : ∀ o, w.heap[a.block]? = some o → w'.heap[a.block]? = some o) (h : w.cell? a = some v) : w'.cell? a = some v := by
  obtain ⟨o, ho⟩ := cell_block h
  have h' := hA o ho
  unfold World.cell? at h ⊢
  rw [ho] at h; rw [h']; exact h

theorem Rep.keep {w w' : World} {ok ok' : Nat → Prop} {d : D} {v : Value} (h : Rep w ok d v) (hs : w.heap.size ≤ w'.heap.size)
    (hA : ∀ b o, ok b → w.heap[b]? = some o → w'.heap[b]? = some o) (hok : ∀ b, b < w.heap.size → ok b → ok' b) : Rep w' ok' d v := by
  induction h with
  | v x h => exact .v x h
  | emp sz A cap h => exact .emp sz A cap h
  | sl sz es b off cap vs hb hk hn hcap hsz hsc hc hr ih =>
    exact .sl sz es b off cap vs (Nat.lt_of_lt_of_le hb hs) (hok b hb hk) hn hcap hsz hsc (fun i e j d h1 h2 => cell_keep (hA b · hk) (hc i e j d h1 h2)) (fun i e j d h1 h2 => ih i e j d h1 h2)
  | pt cs o b off vs hb hk hsc hc hr ih =>
    exact .pt cs o b off vs (Nat.lt_of_lt_of_le hb hs) (hok b hb hk) hsc (fun j d h1 => cell_keep (hA b · hk) (hc j d h1)) (fun j d h1 => ih j d h1)
  | fn f cap vs hl hr ih => exact .fn f cap vs hl fun j d v h1 h2 => ih j d v h1 h2
  | agg cs vs hl hsc hr ih => exact .agg cs vs hl hsc fun j d v h1 h2 => ih j d v h1 h2
  | tup cs vs hl hr ih => exact .tup cs vs hl fun j d v h1 h2 => ih j d v h1 h2

theorem Rep.ext {w w' : World} {ok ok' : Nat → Prop} {d : D} {v : Value} (h : Rep w ok d v) (hE : Ext w w') (hok : ∀ b, b < w.heap.size → ok b → ok' b) : Rep w' ok' d v :=
  h.keep hE.size (fun _ _ _ ho => hE.heap ho) hok
theorem heap_lt {w : World} {b : Nat} {o : Obj} (h : w.heap[b]? = some o) : b < w.heap.size := by
  rcases Nat.lt_or_ge b w.heap.size with hl | hl
  · exact hl
  · rw [Array.getElem?_eq_none hl] at h; cases h
theorem Rep.ok {w : World} {ok ok' : Nat → Prop} {d : D} {v : Value} (h : Rep w ok d v) (hok : ∀ b, b < w.heap.size → ok b → ok' b) : Rep w ok' d v :=
  h.keep (Nat.le_refl _) (fun _ _ _ ho => ho) hok

/-- Data without memory. -/
inductive D.Flat : D → Prop
  | v (x : Value) : Flat (.v x)
  | agg (cs : List D) (h : ∀ d ∈ cs, Flat d) : Flat (.agg cs)
  | tup (cs : List D) (h : ∀ d ∈ cs, Flat d) : Flat (.tup cs)
theorem Rep.flat {w w' : World} {ok ok' : Nat → Prop} {d : D} {v : Value} (h : Rep w ok d v) (hf : d.Flat) : Rep w' ok' d v := by
  induction h with
  | v x h => exact .v x h
  | emp sz A cap h => exact .emp sz A cap h
  | sl => cases hf
  | pt => cases hf
  | fn => cases hf
  | agg cs vs hl hsc hr ih =>
    cases hf with
    | agg _ h => exact .agg cs vs hl hsc fun j d v h1 h2 => ih j d v h1 h2 (h d (List.mem_of_getElem? h1))
  | tup cs vs hl hr ih =>
    cases hf with
    | tup _ h => exact .tup cs vs hl fun j d v h1 h2 => ih j d v h1 h2 (h d (List.mem_of_getElem? h1))

/-- What a temporary holds: data, a pointer into a site, the slice that a site is, or what nobody reads. -/
inductive T where
  | d (x : D)
  | ref (s o : Nat)
  | rs (s : Nat)
  | un
  | dead
deriving Inhabited
/-- Memory of the call's own: a variable by its cells, a slice by its elements. -/
inductive Site where
  | no
  | box (cs : List D)
  | tbox (cs : List T)
  | row (e sz : Nat) (es : List (List D))
deriving Inhabited
def Site.isVar : Site → Bool
  | .box _ => true
  | .tbox _ => true
  | _ => false
structure St where
  n : Nat
  t : Nat → T
  s : Nat → Site

def St.put (st : St) (dst : Option Tmp) (x : T) : St :=
  match dst with
  | none => st
  | some d => { st with t := fun k => bif Nat.beq k d then x else st.t k }
def St.site (st : St) (s : Nat) (x : Site) : St := { st with s := fun k => bif Nat.beq k s then x else st.s k }

def constT : Value → T
  | .slice none 0 0 => .d (.sl 1 [])
  | .agg cs => if cs.toList.all Value.oneCell' then .d (.agg (cs.toList.map .v)) else .dead
  | .tuple _ => .dead
  | v => .d (.v v)
def St.ev (st : St) : Operand → T
  | .tmp t => st.t t
  | .const v => constT v
  | .global _ => .dead
  | .func f => .d (.fn (.func f) [])

def RepT (w : World) (ok : Nat → Prop) (blk : Nat → Option Nat) (val : Nat → Value) (s : Nat → Site) : T → Value → Prop
  | .d x, v => Rep w ok x v
  | .ref k o, v => s k ≠ .no ∧ ∃ b, blk k = some b ∧ v = .pointer (some ⟨b, o, none⟩)
  | .rs k, v => (∃ e sz es, s k = .row e sz es) ∧ v = val k
  | .un, v => v = undef
  | .dead, _ => True
/-- A site lies in its block. -/
def SiteIn (w : World) (ok : Nat → Prop) (blk' : Nat → Option Nat) (val' : Nat → Value) (s : Nat → Site) (blk : Option Nat) (val : Value) : Site → Prop
  | .no => blk = none
  | .box cs => ∃ b e vals, blk = some b ∧ w.heap[b]? = some (.cells vals e (0, 0)) ∧ vals.size = cs.length ∧ (∀ (j : Nat) (d : D), cs[j]? = some d → d.sc = true) ∧ ∀ (j : Nat) (d : D), cs[j]? = some d → ∃ v, vals[j]? = some v ∧ Rep w ok d v
  | .tbox cs => ∃ b e vals, blk = some b ∧ w.heap[b]? = some (.cells vals e (0, 0)) ∧ vals.size = cs.length ∧ ∀ (j : Nat) (x : T), cs[j]? = some x → ∃ v, vals[j]? = some v ∧ v.oneCell' = true ∧ RepT w ok blk' val' s x v
  | .row e sz es => (∀ (i : Nat) (x : List D), es[i]? = some x → x.length = sz) ∧ (∀ (i : Nat) (x : List D) (j : Nat) (d : D), es[i]? = some x → x[j]? = some d → d.sc = true) ∧
      ((blk = none ∧ es = [] ∧ val = .slice none 0 0) ∨
       ∃ b vals cap, blk = some b ∧ val = .slice (some ⟨b, 0, none⟩) es.length cap ∧ es.length ≤ cap ∧ cap ≤ maxLen ∧ w.heap[b]? = some (.cells vals e (0, 0)) ∧ vals.size = cap * sz ∧
        ∀ (i : Nat) (x : List D) (j : Nat) (d : D), es[i]? = some x → x[j]? = some d → ∃ v, vals[i * sz + j]? = some v ∧ Rep w ok d v)
/-- Where a call began, and which blocks its arguments may lie in. -/
structure Cx where
  w : World
  ok : Nat → Prop
  mine : Nat → Prop
  pin : Nat → Option Nat
/-- Blocks that the call may change: new ones, and those that were handed to it. -/
def Ours (c : Cx) (b : Nat) : Prop := c.w.heap.size ≤ b ∨ c.mine b
structure ExtM (c : Cx) (w : World) : Prop where
  os : w.os = c.w.os
  tape : w.tape = c.w.tape
  output : w.output = c.w.output
  size : c.w.heap.size ≤ w.heap.size
  block : ∀ k, k < c.w.heap.size → ¬ c.mine k → w.heap[k]? = c.w.heap[k]?
theorem ExtM.trans {c : Cx} {w w' : World} (h : ExtM c w) (hE : Ext w w') : ExtM c w' :=
  ⟨hE.os.trans h.os, hE.tape.trans h.tape, hE.output.trans h.output, Nat.le_trans h.size hE.size, fun k hk hm => (hE.block k (Nat.lt_of_lt_of_le hk h.size)).trans (h.block k hk hm)⟩
def okOf (c : Cx) (blk : Nat → Option Nat) (b : Nat) : Prop := (c.ok b ∨ c.w.heap.size ≤ b) ∧ ∀ s, blk s ≠ some b

structure Hold (w0 : Cx) (st : St) (a : Act) (w : World) (blk : Nat → Option Nat) (val : Nat → Value) : Prop where
  ext : ExtM w0 w
  defers : a.defers = []
  size : a.tmps.size = st.n
  new : ∀ s b, blk s = some b → Ours w0 b ∧ b < w.heap.size
  inj : ∀ s s' b, blk s = some b → blk s' = some b → s = s'
  pin : ∀ k b, w0.pin k = some b → blk k = some b ∧ (st.s k).isVar = true ∧ st.n ≤ k
  site : ∀ s, SiteIn w (okOf w0 blk) blk val st.s (blk s) (val s) (st.s s)
  tmp : ∀ t, RepT w (okOf w0 blk) blk val st.s (st.t t) (a.tmps.getD t undef)
def Holds (w0 : Cx) (st : St) (a : Act) (w : World) : Prop := ∃ blk val, Hold w0 st a w blk val


theorem RepT.const {w : World} {ok : Nat → Prop} {blk : Nat → Option Nat} {val : Nat → Value} {s : Nat → Site} (v : Value) : RepT w ok blk val s (constT v) v := by
  cases v with
  | slice A n c =>
    cases A with
    | none =>
      cases n with
      | zero =>
        cases c with
        | zero => exact Rep.emp _ _ _ (Nat.zero_le _)
        | succ c => exact Rep.v _ rfl
      | succ n => exact Rep.v _ rfl
    | some a => exact Rep.v _ rfl
  | agg cs =>
    simp only [constT]
    split
    · rename_i hall
      have := Rep.agg (w := w) (ok := ok) (cs.toList.map D.v) cs.toList (by simp) (fun j d hd => by
        rw [List.getElem?_map] at hd
        cases hj : cs.toList[j]? with
        | none => rw [hj] at hd; cases hd
        | some u => rw [hj] at hd; cases hd; rfl) (fun j d v hd hv => by
        rw [List.getElem?_map, hv] at hd
        cases hd
        exact .v v (List.all_eq_true.1 hall v (List.mem_of_getElem? hv)))
      show Rep w ok _ _
      simpa using this
    · trivial
  | tuple cs => trivial
  | _ => exact Rep.v _ rfl
theorem RepT.ext {w w' : World} {ok : Nat → Prop} {blk : Nat → Option Nat} {val : Nat → Value} {s : Nat → Site} {x : T} {v : Value} (h : RepT w ok blk val s x v) (hE : Ext w w') : RepT w' ok blk val s x v := by
  cases x with
  | d x => exact Rep.ext h hE fun _ _ h => h
  | _ => exact h
theorem SiteIn.ext {w w' : World} {ok : Nat → Prop} {blk' : Nat → Option Nat} {val' : Nat → Value} {s : Nat → Site} {b : Option Nat} {val : Value} {x : Site} (h : SiteIn w ok blk' val' s b val x) (hE : Ext w w') : SiteIn w' ok blk' val' s b val x := by
  cases x with
  | no => exact h
  | box cs =>
    obtain ⟨b, e, vals, h1, h2, h3, h4, h5⟩ := h
    exact ⟨b, e, vals, h1, hE.heap h2, h3, h4, fun j d hd => let ⟨v, hv, hr⟩ := h5 j d hd; ⟨v, hv, hr.ext hE fun _ _ h => h⟩⟩
  | tbox cs =>
    obtain ⟨b, e, vals, h1, h2, h3, h5⟩ := h
    exact ⟨b, e, vals, h1, hE.heap h2, h3, fun j x hx => let ⟨v, hv, ho, hr⟩ := h5 j x hx; ⟨v, hv, ho, hr.ext hE⟩⟩
  | row e sz es =>
    obtain ⟨h1, h2, h3⟩ := h
    refine ⟨h1, h2, h3.imp id fun ⟨b, vals, cap, k1, k2, k3, k4, k5, k6, k7⟩ => ⟨b, vals, cap, k1, k2, k3, k4, hE.heap k5, k6, fun i x j d hi hj => let ⟨v, hv, hr⟩ := k7 i x j d hi hj; ⟨v, hv, hr.ext hE fun _ _ h => h⟩⟩⟩

theorem Hold.ev {w0 : Cx} {st : St} {a : Act} {w : World} {blk : Nat → Option Nat} {val : Nat → Value} (h : Hold w0 st a w blk val) (y : Operand) : RepT w (okOf w0 blk) blk val st.s (st.ev y) (a.eval y) := by
  cases y with
  | tmp t => exact h.tmp t
  | const v => exact RepT.const v
  | global g => trivial
  | func f => exact Rep.fn (.func f) [] [] rfl (fun j d v h => by simp at h)
theorem Hold.ext' {w0 : Cx} {st : St} {a : Act} {w w' : World} {blk : Nat → Option Nat} {val : Nat → Value} (h : Hold w0 st a w blk val) (hE : Ext w w') : Hold w0 st a w' blk val :=
  ⟨h.ext.trans hE, h.defers, h.size, fun s b hb => ⟨(h.new s b hb).1, Nat.lt_of_lt_of_le (h.new s b hb).2 hE.size⟩, h.inj, h.pin, fun s => (h.site s).ext hE, fun t => (h.tmp t).ext hE⟩
theorem put_getD (a : Act) (d : Nat) (v : Value) (k : Nat) (hd : d < a.tmps.size) : (a.put (some d) v).tmps.getD k undef = if k = d then v else a.tmps.getD k undef := by
  simp only [Act.put]
  by_cases h : k = d
  · subst h; simp [hd]
  · simp [h, Ne.symm h]
theorem Hold.put {w0 : Cx} {st : St} {a : Act} {w : World} {blk : Nat → Option Nat} {val : Nat → Value} (h : Hold w0 st a w blk val) (dst : Option Tmp) (x : T) (v : Value)
    (hd : ∀ d, dst = some d → d < st.n) (hx : RepT w (okOf w0 blk) blk val st.s x v) : Hold w0 (st.put dst x) (a.put dst v) w blk val := by
  cases dst with
  | none => exact h
  | some d =>
    refine ⟨h.ext, h.defers, by simpa [Act.put, St.put] using h.size, h.new, h.inj, h.pin, h.site, fun t => ?_⟩
    rw [put_getD _ _ _ _ (by rw [h.size]; exact hd d rfl)]
    show RepT w (okOf w0 blk) blk val st.s (bif Nat.beq t d then x else st.t t) _
    by_cases ht : t = d
    · subst ht; simpa using hx
    · have : Nat.beq t d = false := by rw [← Bool.not_eq_true]; exact fun e => ht (Nat.eq_of_beq_eq_true e)
      rw [this, if_neg ht]; exact h.tmp t
end Go.Proofs.Ytgdcidbpadhkpaa.Am
