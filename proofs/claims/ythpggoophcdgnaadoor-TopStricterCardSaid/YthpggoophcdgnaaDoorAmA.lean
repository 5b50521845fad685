/- The abstract machine, parts 1 to 10. Conditions: none. -/
import Derived.StillTail
import Derived.Below
import Derived.KernelRfl
import Derived.Maps.AppendAt
import Derived.OrdersIn
import Derived.TacticsIn
import Derived.RangeFuncCalls
import Derived.IntWalk
import Derived.Laws.MakeOwn
import Derived.Laws.Strings
import Derived.Lib.ConvBytes
import Derived.Laws.StructEq
import Derived.RangeFuncRecord
import Derived.RangeFuncLeaves
import Derived.Laws.CopyRow
import Derived.Laws.OwnMore
set_option linter.unusedVariables false
set_option linter.unusedSimpArgs false
namespace Go.Proofs.YthpggoophcdgnaaDoor
open Go.RowKit

def Ext (w w' : World) : Prop := Below w.heap.size w w'
theorem Ext.refl (w : World) : Ext w w := Below.refl _ _
theorem Ext.trans {a b c : World} (h : Ext a b) (k : Ext b c) : Ext a c := Below.trans h (Below.mono k h.size)
theorem Ext.drew {a w : World} (h : Ext a w) : Ext a w.drew := Below.drew h
theorem Ext.alloc {a w : World} (h : Ext a w) (o : Obj) : Ext a (w.alloc o) := Below.alloc h h.size o
theorem Ext.size {a w : World} (h : Ext a w) : a.heap.size ≤ w.heap.size := Below.size h
theorem cell_lt {w : World} {p : Addr} {v : Value} (h : w.cell? p = some v) : p.block < w.heap.size := by
  unfold World.cell? at h
  rcases Nat.lt_or_ge p.block w.heap.size with hl | hl
  · exact hl
  · rw [Array.getElem?_eq_none hl] at h; cases h
theorem Ext.cell {w w' : World} (h : Ext w w') {p : Addr} {v : Value} (hc : w.cell? p = some v) : w'.cell? p = some v :=
  (Below.cell h (cell_lt hc)).trans hc
theorem Ext.fz {w w' : World} (h : Ext w w') {p : Addr} {b : Bool} (hp : p.block < w.heap.size) (hf : w.frozen? p = b) : w'.frozen? p = b :=
  (Below.frozen h hp).trans hf
theorem Ext.set {a w : World} (h : Ext a w) {p : Addr} (hp : a.heap.size ≤ p.block) (u : Value) : Ext a (w.setCell p u) := Below.setCell h hp u
theorem Ext.heap {w w' : World} (h : Ext w w') {g : Nat} {o : Obj} (hc : w.heap[g]? = some o) : w'.heap[g]? = some o := by
  have hg : g < w.heap.size := by
    rcases Nat.lt_or_ge g w.heap.size with hl | hl
    · exact hl
    · rw [Array.getElem?_eq_none hl] at hc; cases hc
  exact (Below.block h g hg).trans hc

structure Blk2 (W : World) (g : Nat) (a b : Value) : Prop where
  c0 : W.cell? ⟨g, 0, none⟩ = some a
  c1 : W.cell? ⟨g, 1, none⟩ = some b
  f0 : W.frozen? ⟨g, 0, none⟩ = false
  f1 : W.frozen? ⟨g, 1, none⟩ = false
  lt : g < W.heap.size
theorem Blk2.ext {w w' : World} {g : Nat} {a b : Value} (h : Blk2 w g a b) (hE : Ext w w') : Blk2 w' g a b :=
  ⟨hE.cell h.c0, hE.cell h.c1, hE.fz h.lt h.f0, hE.fz h.lt h.f1, Nat.lt_of_lt_of_le h.lt hE.size⟩
theorem Blk2.new (w : World) (a b : Value) (t : TypeId) : Blk2 (w.alloc (.cells #[a, b] t)) w.heap.size a b :=
  ⟨by simp, by simp, by simp, by simp, by simp⟩
theorem Blk2.put {w : World} {g : Nat} {a b : Value} (h : Blk2 w g a b) (u v : Value) : Blk2 ((w.setCell ⟨g, 0, none⟩ u).setCell ⟨g, 1, none⟩ v) g u v := by
  have h0 : (w.setCell ⟨g, 0, none⟩ u).cell? ⟨g, 0, none⟩ = some u := World.cell?_setCell_same _ _ _ h.c0
  have h1 : (w.setCell ⟨g, 0, none⟩ u).cell? ⟨g, 1, none⟩ = some b := (World.cell?_setCell_other _ _ _ _ (by simp)).trans h.c1
  exact ⟨(World.cell?_setCell_other _ _ _ _ (by simp)).trans h0, World.cell?_setCell_same _ _ _ h1, by simp [h.f0], by simp [h.f1], by simpa using h.lt⟩
section
variable {P : Program} {ops : Array Oper} {md : Region.Mode} {R : World → World → Prop}

def Stable (R : World → World → Prop) (C : World → Prop) : Prop := ∀ w w', R w w' → C w → C w'

def yieldsUpon (P : Program) (Ψ : Value → World → Prop) : Result Next → Prop
  | .ok (.value u) w' => Ψ u w'
  | .ok .skip w' => Ψ undef w'
  | .ok (.enter f args) w' => Calls P f args w' (fun e w'' => ∃ u, e = .returned u ∧ Ψ u w'')
  | _ => False
attribute [go_sem] yieldsUpon
def yieldsC (P : Program) (o : Oper) (a : Act) (w : World) (Ψ : Value → World → Prop) : Prop := yieldsUpon P Ψ ((execOp a.eval o).run P w)

attribute [go_sem] yieldsC

def Exact (P : Program) (ops : Array Oper) (R : World → World → Prop) (C : World → Prop) (o : Oper) (v : Value) (a : Act) : Prop :=
  (Region.wanted o (yielded ops a.tmps) = true ∧ ∀ w, C w → yieldsC P o a w (fun u w' => u = v ∧ R w w')) ∨ (Region.wanted o (yielded ops a.tmps) = false ∧ v = undef)

theorem Exact.sub {C C' : World → Prop} {o : Oper} {v : Value} {a : Act} (hy : Exact P ops R C o v a) (h : ∀ w, C' w → C w) : Exact P ops R C' o v a :=
  hy.imp (fun ⟨h1, h2⟩ => ⟨h1, fun w hc => h2 w (h w hc)⟩) id

def wpT (P : Program) (ops : Array Oper) (R : World → World → Prop) (K : (World → Prop) → Act → Prop) : List (Nat × Nat) → (World → Prop) → Act → Prop
  | [], C, a => K C a
  | (i, 0) :: σ, C, a => match ops[i]? with
    | none => False
    | some o => if Region.wanted o (yielded ops a.tmps) then ∃ v, (∀ w, C w → yieldsC P o a w (fun u w' => u = v ∧ R w w')) ∧ wpT P ops R K σ C (a.put o.dst v)
      else wpT P ops R K σ C (a.put o.dst undef)
  | (i, 1) :: σ, C, a => match ops[i]? with
    | none => False
    | some o => if Region.wanted o (yielded ops a.tmps) then
        ∃ Φ : Value → World → Prop, (∀ v, Stable R (Φ v)) ∧ (∀ w, C w → yieldsC P o a w (fun v w' => R w w' ∧ Φ v w')) ∧ ∀ v, wpT P ops R K σ (fun w => C w ∧ Φ v w) (a.put o.dst v)
      else wpT P ops R K σ C (a.put o.dst undef)
  | (i, j + 2) :: σ, C, a => match ops[i]?, ops[j]? with
    | some o, some o' => Region.wanted o (yielded ops a.tmps) = true ∧ Region.wanted o' (yielded ops a.tmps) = true ∧
        ∃ (Φ Φ' : Value → World → Prop) (Δ : Value → Value → Prop), (∀ v, Stable R (Φ v)) ∧ (∀ v, Stable R (Φ' v)) ∧ (∀ w, C w → yieldsC P o a w (fun v w' => R w w' ∧ Φ v w')) ∧ (∀ w, C w → yieldsC P o' a w (fun v w' => R w w' ∧ Φ' v w')) ∧
          (∀ v w, C w → Φ v w → yieldsC P o' a w (fun v' w' => R w w' ∧ Φ' v' w' ∧ Δ v v')) ∧ (∀ v' w, C w → Φ' v' w → yieldsC P o a w (fun v w' => R w w' ∧ Φ v w' ∧ Δ v v')) ∧
          ∀ v v', wpT P ops R K σ (fun w => C w ∧ Φ v w ∧ Φ' v' w ∧ Δ v v') ((a.put o.dst v).put o'.dst v')
    | _, _ => False

end
attribute [irreducible] wpT
end Go.Proofs.YthpggoophcdgnaaDoor
namespace Go.Proofs.YthpggoophcdgnaaDoor.Am
open Go

inductive D where
  | v (x : Value)
  | sl (sz : Nat) (es : List (List D))
  | pt (cs : List D) (o : Nat)
  | fn (f : Fn) (cap : List D)
  | mfn (f : Fn) (cap : List D)
  | agg (cs : List D)
  | tup (cs : List D)
  | e0
  | nan (k : FloatKind)
deriving Inhabited

def D.sc : D → Bool
  | .agg _ | .tup _ => false
  | _ => true
def D.cells : D → List D
  | .agg cs => cs
  | d => [d]

inductive Rep (w : World) (ok : Nat → Prop) : D → Value → Prop
  | v (x : Value) (h : x.oneCell' = true) : Rep w ok (.v x) x
  | emp (sz : Nat) (A : Option Addr) (cap : Nat) (h : cap ≤ maxLen) : Rep w ok (.sl sz []) (.slice A 0 cap)
  | sl (sz : Nat) (es : List (List D)) (b off cap : Nat) (vs : Nat → Nat → Value) (hb : b < w.heap.size) (hok : ok b) (hn : es.length ≤ cap) (hcap : cap ≤ maxLen)
      (hsz : ∀ (i : Nat) (e : List D), es[i]? = some e → e.length = sz)
      (hs : ∀ (i : Nat) (e : List D) (j : Nat) (d : D), es[i]? = some e → e[j]? = some d → d.sc = true)
      (hc : ∀ (i : Nat) (e : List D) (j : Nat) (d : D), es[i]? = some e → e[j]? = some d → w.cell? ⟨b, off + i * sz + j, none⟩ = some (vs i j))
      (hr : ∀ (i : Nat) (e : List D) (j : Nat) (d : D), es[i]? = some e → e[j]? = some d → Rep w ok d (vs i j)) : Rep w ok (.sl sz es) (.slice (some ⟨b, off, none⟩) es.length cap)
  | pt (cs : List D) (o b off : Nat) (vs : Nat → Value) (hb : b < w.heap.size) (hok : ok b)
      (hs : ∀ (j : Nat) (d : D), cs[j]? = some d → d.sc = true)
      (hc : ∀ (j : Nat) (d : D), cs[j]? = some d → w.cell? ⟨b, off + j, none⟩ = some (vs j))
      (hr : ∀ (j : Nat) (d : D), cs[j]? = some d → Rep w ok d (vs j)) : Rep w ok (.pt cs o) (.pointer (some ⟨b, off + o, none⟩))
  | fn (f : Fn) (cap : List D) (vs : List Value) (hl : vs.length = cap.length)
      (hr : ∀ (j : Nat) (d : D) (v : Value), cap[j]? = some d → vs[j]? = some v → Rep w ok d v) : Rep w ok (.fn f cap) (.func f #[] vs.toArray)
  | mfn (f : Fn) (cap : List D) (vs : List Value) (hl : vs.length = cap.length)
      (hr : ∀ (j : Nat) (d : D) (v : Value), cap[j]? = some d → vs[j]? = some v → Rep w ok d v) : Rep w ok (.mfn f cap) (.func f vs.toArray #[])
  | agg (cs : List D) (vs : List Value) (hl : vs.length = cs.length) (hs : ∀ (j : Nat) (d : D), cs[j]? = some d → d.sc = true)
      (hr : ∀ (j : Nat) (d : D) (v : Value), cs[j]? = some d → vs[j]? = some v → Rep w ok d v) : Rep w ok (.agg cs) (.agg vs.toArray)
  | tup (cs : List D) (vs : List Value) (hl : vs.length = cs.length)
      (hr : ∀ (j : Nat) (d : D) (v : Value), cs[j]? = some d → vs[j]? = some v → Rep w ok d v) : Rep w ok (.tup cs) (.tuple vs.toArray)
  | e0 (A : Option Addr) : Rep w ok .e0 (.slice A 0 0)
  | nan (k : FloatKind) (b : Nat) (h : (k.decode b).isNaN = true) : Rep w ok (.nan k) (.float k b)

theorem Rep.one {w : World} {ok : Nat → Prop} {d : D} {v : Value} (h : Rep w ok d v) (hs : d.sc = true) : v.oneCell' = true := by
  cases h <;> first | assumption | rfl | cases hs

theorem cell_block {w : World} {a : Addr} {v : Value} (h : w.cell? a = some v) : ∃ o, w.heap[a.block]? = some o := by
  unfold World.cell? at h
  cases hh : w.heap[a.block]? with
  | none => rw [hh] at h; cases h
  | some o => exact ⟨o, rfl⟩
theorem cell_keep {w w' : World} {a : Addr} {v : Value} (hA : ∀ o, w.heap[a.block]? = some o → w'.heap[a.block]? = some o) (h : w.cell? a = some v) : w'.cell? a = some v := by
  obtain ⟨o, ho⟩ := cell_block h
  have h' := hA o ho
  unfold World.cell? at h ⊢
  rw [ho] at h; rw [h']; exact h

structure CK (w w' : World) : Prop where
  size : w.heap.size ≤ w'.heap.size
  cells : ∀ (b : Nat) (vals : Array Value) (e : TypeId) (z : Nat × Nat), w.heap[b]? = some (Obj.cells vals e z) → w'.heap[b]? = some (Obj.cells vals e z)
  maps : ∀ (b : Nat) (es : Array MapEntry) (c : Nat), w.heap[b]? = some (Obj.map es c) → w'.heap[b]? = some (Obj.map es c)
theorem CK.cell {w w' : World} {a : Addr} {v : Value} (hA : CK w w') (h : w.cell? a = some v) : w'.cell? a = some v := by
  obtain ⟨o, ho⟩ := cell_block h
  cases o with
  | cells vals e z =>
    have h' := hA.cells _ _ _ _ ho
    unfold World.cell? at h ⊢
    rw [ho] at h; rw [h']; exact h
  | _ => unfold World.cell? at h; rw [ho] at h; cases h
theorem Rep.keepC {w w' : World} {ok : Nat → Prop} {d : D} {v : Value} (h : Rep w ok d v) (hA : CK w w') : Rep w' ok d v := by
  induction h with
  | v x h => exact .v x h
  | emp sz A cap h => exact .emp sz A cap h
  | sl sz es b off cap vs hb hk hn hcap hsz hsc hc hr ih =>
    exact .sl sz es b off cap vs (Nat.lt_of_lt_of_le hb hA.size) hk hn hcap hsz hsc (fun i e j d h1 h2 => hA.cell (hc i e j d h1 h2)) (fun i e j d h1 h2 => ih i e j d h1 h2)
  | pt cs o b off vs hb hk hsc hc hr ih =>
    exact .pt cs o b off vs (Nat.lt_of_lt_of_le hb hA.size) hk hsc (fun j d h1 => hA.cell (hc j d h1)) (fun j d h1 => ih j d h1)
  | fn f cap vs hl hr ih => exact .fn f cap vs hl fun j d v h1 h2 => ih j d v h1 h2
  | mfn f cap vs hl hr ih => exact .mfn f cap vs hl fun j d v h1 h2 => ih j d v h1 h2
  | agg cs vs hl hsc hr ih => exact .agg cs vs hl hsc fun j d v h1 h2 => ih j d v h1 h2
  | tup cs vs hl hr ih => exact .tup cs vs hl fun j d v h1 h2 => ih j d v h1 h2
  | e0 A => exact .e0 A
  | nan k b h => exact .nan k b h
theorem Rep.keep {w w' : World} {ok ok' : Nat → Prop} {d : D} {v : Value} (h : Rep w ok d v) (hs : w.heap.size ≤ w'.heap.size)
    (hA : ∀ b o, ok b → w.heap[b]? = some o → w'.heap[b]? = some o) (hok : ∀ b, b < w.heap.size → ok b → ok' b) : Rep w' ok' d v := by
  induction h with
  | v x h => exact .v x h
  | emp sz A cap h => exact .emp sz A cap h
  | sl sz es b off cap vs hb hk hn hcap hsz hsc hc hr ih =>
    exact .sl sz es b off cap vs (Nat.lt_of_lt_of_le hb hs) (hok b hb hk) hn hcap hsz hsc (fun i e j d h1 h2 => cell_keep (hA b · hk) (hc i e j d h1 h2)) (fun i e j d h1 h2 => ih i e j d h1 h2)
  | pt cs o b off vs hb hk hsc hc hr ih =>
    exact .pt cs o b off vs (Nat.lt_of_lt_of_le hb hs) (hok b hb hk) hsc (fun j d h1 => cell_keep (hA b · hk) (hc j d h1)) (fun j d h1 => ih j d h1)
  | fn f cap vs hl hr ih => exact .fn f cap vs hl fun j d v h1 h2 => ih j d v h1 h2
  | mfn f cap vs hl hr ih => exact .mfn f cap vs hl fun j d v h1 h2 => ih j d v h1 h2
  | agg cs vs hl hsc hr ih => exact .agg cs vs hl hsc fun j d v h1 h2 => ih j d v h1 h2
  | tup cs vs hl hr ih => exact .tup cs vs hl fun j d v h1 h2 => ih j d v h1 h2
  | e0 A => exact .e0 A
  | nan k b h => exact .nan k b h

theorem Rep.ext {w w' : World} {ok ok' : Nat → Prop} {d : D} {v : Value} (h : Rep w ok d v) (hE : Ext w w') (hok : ∀ b, b < w.heap.size → ok b → ok' b) : Rep w' ok' d v :=
  h.keep hE.size (fun _ _ _ ho => hE.heap ho) hok
theorem heap_lt {w : World} {b : Nat} {o : Obj} (h : w.heap[b]? = some o) : b < w.heap.size := by
  rcases Nat.lt_or_ge b w.heap.size with hl | hl
  · exact hl
  · rw [Array.getElem?_eq_none hl] at h; cases h
theorem Rep.ok {w : World} {ok ok' : Nat → Prop} {d : D} {v : Value} (h : Rep w ok d v) (hok : ∀ b, b < w.heap.size → ok b → ok' b) : Rep w ok' d v :=
  h.keep (Nat.le_refl _) (fun _ _ _ ho => ho) hok

inductive D.Flat : D → Prop
  | v (x : Value) : Flat (.v x)
  | agg (cs : List D) (h : ∀ d ∈ cs, Flat d) : Flat (.agg cs)
  | tup (cs : List D) (h : ∀ d ∈ cs, Flat d) : Flat (.tup cs)
theorem Rep.flat {w w' : World} {ok ok' : Nat → Prop} {d : D} {v : Value} (h : Rep w ok d v) (hf : d.Flat) : Rep w' ok' d v := by
  induction h with
  | v x h => exact .v x h
  | emp sz A cap h => exact .emp sz A cap h
  | sl => cases hf
  | pt => cases hf
  | fn => cases hf
  | mfn => cases hf
  | agg cs vs hl hsc hr ih =>
    cases hf with
    | agg _ h => exact .agg cs vs hl hsc fun j d v h1 h2 => ih j d v h1 h2 (h d (List.mem_of_getElem? h1))
  | tup cs vs hl hr ih =>
    cases hf with
    | tup _ h => exact .tup cs vs hl fun j d v h1 h2 => ih j d v h1 h2 (h d (List.mem_of_getElem? h1))
  | e0 A => exact .e0 A
  | nan k b h => exact .nan k b h

structure Kd where
  row : Bool
  one : Bool
inductive T where
  | d (x : D)
  | ref (s o : Nat)
  | rs (s : Nat)
  | un
  | own (s : Nat) (k : Kd) (ds : List D) (F : Option Nat → Value → List Value → Value → Prop)
  | dead
deriving Inhabited
inductive Site where
  | no
  | box (cs : List D)
  | tbox (cs : List T)
  | row (e sz : Nat) (es : List (List D))
  | mp (es : List (Value × D)) (clock : Nat)
deriving Inhabited
def Site.isVar : Site → Bool
  | .box _ => true
  | .tbox _ => true
  | .mp _ _ => true
  | _ => false
structure St where
  n : Nat
  t : Nat → T
  s : Nat → Site

def St.put (st : St) (dst : Option Tmp) (x : T) : St :=
  match dst with
  | none => st
  | some d => { st with t := fun k => bif Nat.beq k d then x else st.t k }
def St.site (st : St) (s : Nat) (x : Site) : St := { st with s := fun k => bif Nat.beq k s then x else st.s k }

def constT : Value → T
  | .slice none 0 0 => .d (.sl 1 [])
  | .agg cs => if cs.toList.all Value.oneCell' then .d (.agg (cs.toList.map .v)) else .dead
  | .tuple _ => .dead
  | v => .d (.v v)
def St.ev (st : St) : Operand → T
  | .tmp t => st.t t
  | .const v => constT v
  | .global _ => .dead
  | .func f => .d (.fn (.func f) [])

def RepL (w : World) (ok : Nat → Prop) : List D → List Value → Prop
  | [], [] => True
  | d :: ds, v :: vs => Rep w ok d v ∧ RepL w ok ds vs
  | _, _ => False
theorem RepL.imp {w w' : World} {ok ok' : Nat → Prop} (h : ∀ d v, Rep w ok d v → Rep w' ok' d v) : ∀ {ds : List D} {vs : List Value}, RepL w ok ds vs → RepL w' ok' ds vs
  | [], [], _ => trivial
  | _ :: _, _ :: _, k => ⟨h _ _ k.1, RepL.imp h k.2⟩
  | [], _ :: _, k => k.elim
  | _ :: _, [], k => k.elim
def MapIn (w : World) (ok : Nat → Prop) (es : List (Value × D)) (ms : List MapEntry) : Prop := ms.map (fun m => m.key) = es.map (fun p => p.1) ∧ RepL w ok (es.map fun p => p.2) (ms.map fun m => m.val)
theorem MapIn.imp {w w' : World} {ok ok' : Nat → Prop} {es : List (Value × D)} {ms : List MapEntry} (hr : ∀ d v, Rep w ok d v → Rep w' ok' d v) (h : MapIn w ok es ms) : MapIn w' ok' es ms := ⟨h.1, h.2.imp hr⟩
def OwnV (w : World) (ok : Nat → Prop) (b : Option Nat) (u : Value) (ds : List D) (F : Option Nat → Value → List Value → Value → Prop) (v : Value) : Prop := ∃ vs, RepL w ok ds vs ∧ F b u vs v
theorem OwnV.imp {w w' : World} {ok ok' : Nat → Prop} {b : Option Nat} {u : Value} {ds : List D} {F : Option Nat → Value → List Value → Value → Prop} {v : Value} (h : OwnV w ok b u ds F v) (hr : ∀ d v, Rep w ok d v → Rep w' ok' d v) : OwnV w' ok' b u ds F v := by
  obtain ⟨vs, h1, h2⟩ := h
  exact ⟨vs, h1.imp hr, h2⟩
def RepT (w : World) (ok : Nat → Prop) (blk : Nat → Option Nat) (val : Nat → Value) (s : Nat → Site) : T → Value → Prop
  | .d x, v => Rep w ok x v
  | .ref k o, v => s k ≠ .no ∧ ∃ b, blk k = some b ∧ v = .pointer (some ⟨b, o, none⟩)
  | .rs k, v => (∃ e sz es, s k = .row e sz es) ∧ v = val k
  | .un, v => v = undef
  | .own k r ds F, v => ((s k ≠ .no ∧ (r.row = true → ∃ e sz es, s k = .row e sz es)) ∧ (r.one = true → v.oneCell' = true)) ∧ OwnV w ok (blk k) (bif r.row then val k else undef) ds F v
  | .dead, _ => True
def SiteIn (w : World) (ok : Nat → Prop) (blk' : Nat → Option Nat) (val' : Nat → Value) (s : Nat → Site) (blk : Option Nat) (val : Value) : Site → Prop
  | .no => blk = none
  | .box cs => ∃ b e vals, blk = some b ∧ w.heap[b]? = some (.cells vals e (0, 0)) ∧ vals.size = cs.length ∧ (∀ (j : Nat) (d : D), cs[j]? = some d → d.sc = true) ∧ ∀ (j : Nat) (d : D), cs[j]? = some d → ∃ v, vals[j]? = some v ∧ Rep w ok d v
  | .tbox cs => ∃ b e vals, blk = some b ∧ w.heap[b]? = some (.cells vals e (0, 0)) ∧ vals.size = cs.length ∧ ∀ (j : Nat) (x : T), cs[j]? = some x → ∃ v, vals[j]? = some v ∧ v.oneCell' = true ∧ RepT w ok blk' val' s x v
  | .mp es _ => ∃ b ms c, blk = some b ∧ w.heap[b]? = some (.map ms c) ∧ MapIn w ok es ms.toList
  | .row e sz es => (∀ (i : Nat) (x : List D), es[i]? = some x → x.length = sz) ∧ (∀ (i : Nat) (x : List D) (j : Nat) (d : D), es[i]? = some x → x[j]? = some d → d.sc = true) ∧
      ((blk = none ∧ es = [] ∧ val = .slice none 0 0) ∨
       ∃ b vals cap, blk = some b ∧ val = .slice (some ⟨b, 0, none⟩) es.length cap ∧ es.length ≤ cap ∧ cap ≤ maxLen ∧ w.heap[b]? = some (.cells vals e (0, 0)) ∧ vals.size = cap * sz ∧
        ∀ (i : Nat) (x : List D) (j : Nat) (d : D), es[i]? = some x → x[j]? = some d → ∃ v, vals[i * sz + j]? = some v ∧ Rep w ok d v)
structure Cx where
  w : World
  ok : Nat → Prop
  mine : Nat → Prop
  pin : Nat → Option Nat
  fix : Nat → Option Obj := fun _ => none
  rnd : Option Nat := none
def Ours (c : Cx) (b : Nat) : Prop := c.w.heap.size ≤ b ∨ c.mine b
structure ExtM (c : Cx) (w : World) : Prop where
  os : w.os = c.w.os
  tape : w.tape = c.w.tape
  output : w.output = c.w.output
  size : c.w.heap.size ≤ w.heap.size
  block : ∀ k, k < c.w.heap.size → ¬ c.mine k → w.heap[k]? = c.w.heap[k]?
theorem ExtM.trans {c : Cx} {w w' : World} (h : ExtM c w) (hE : Ext w w') : ExtM c w' :=
  ⟨hE.os.trans h.os, hE.tape.trans h.tape, hE.output.trans h.output, Nat.le_trans h.size hE.size, fun k hk hm => (hE.block k (Nat.lt_of_lt_of_le hk h.size)).trans (h.block k hk hm)⟩
def okOf (c : Cx) (blk : Nat → Option Nat) (b : Nat) : Prop := (c.ok b ∨ c.w.heap.size ≤ b) ∧ ∀ s, blk s ≠ some b

def ncO : Obj → Bool
  | .cells _ _ _ => false
  | .map _ _ => false
  | _ => true
structure Kept (c : Cx) (a : Act) (w : World) : Prop where
  marks : ∃ ms : List Nat, a.defers = ms.map (fun b => { target := .collected b, args := #[] }) ∧ ms.Nodup ∧ ∀ b ∈ ms, Ours c b ∧ w.heap[b]? = some (.deferred (some []))
  fix : ∀ b o, c.fix b = some o → w.heap[b]? = some o ∧ ncO o = true
theorem Kept.nil {c : Cx} {a : Act} {w : World} (h : a.defers = []) (hf : c.fix = fun _ => none) : Kept c a w := ⟨⟨[], h, .nil, fun b hb => by cases hb⟩, fun b o h => by rw [hf] at h; cases h⟩
theorem Kept.act {c : Cx} {a a' : Act} {w : World} (h : Kept c a w) (e : a'.defers = a.defers) : Kept c a' w := by
  obtain ⟨⟨ms, h1, h2⟩, h4⟩ := h
  exact ⟨⟨ms, e.trans h1, h2⟩, h4⟩
theorem Kept.of {c : Cx} {a : Act} {w w' : World} (h : Kept c a w) (hnc : ∀ (b : Nat) (o : Obj), w.heap[b]? = some o → ncO o = true → w'.heap[b]? = some o) : Kept c a w' := by
  obtain ⟨⟨ms, h1, h2, h3⟩, h4⟩ := h
  exact ⟨⟨ms, h1, h2, fun b hb => ⟨(h3 b hb).1, hnc b _ (h3 b hb).2 rfl⟩⟩, fun b o hb => ⟨hnc b o (h4 b o hb).1 (h4 b o hb).2, (h4 b o hb).2⟩⟩
structure Hold (w0 : Cx) (st : St) (a : Act) (w : World) (blk : Nat → Option Nat) (val : Nat → Value) : Prop where
  ext : ExtM w0 w
  defers : Kept w0 a w
  size : a.tmps.size = st.n
  new : ∀ s b, blk s = some b → Ours w0 b ∧ b < w.heap.size
  inj : ∀ s s' b, blk s = some b → blk s' = some b → s = s'
  pin : ∀ k b, w0.pin k = some b → blk k = some b ∧ (st.s k).isVar = true ∧ st.n ≤ k
  site : ∀ s, SiteIn w (okOf w0 blk) blk val st.s (blk s) (val s) (st.s s)
  tmp : ∀ t, RepT w (okOf w0 blk) blk val st.s (st.t t) (a.tmps.getD t undef)
def Holds (w0 : Cx) (st : St) (a : Act) (w : World) : Prop := ∃ blk val, Hold w0 st a w blk val


theorem RepT.const {w : World} {ok : Nat → Prop} {blk : Nat → Option Nat} {val : Nat → Value} {s : Nat → Site} (v : Value) : RepT w ok blk val s (constT v) v := by
  cases v with
  | slice A n c =>
    cases A with
    | none =>
      cases n with
      | zero =>
        cases c with
        | zero => exact Rep.emp _ _ _ (Nat.zero_le _)
        | succ c => exact Rep.v _ rfl
      | succ n => exact Rep.v _ rfl
    | some a => exact Rep.v _ rfl
  | agg cs =>
    simp only [constT]
    split
    · rename_i hall
      have := Rep.agg (w := w) (ok := ok) (cs.toList.map D.v) cs.toList (by simp) (fun j d hd => by
        rw [List.getElem?_map] at hd
        cases hj : cs.toList[j]? with
        | none => rw [hj] at hd; cases hd
        | some u => rw [hj] at hd; cases hd; rfl) (fun j d v hd hv => by
        rw [List.getElem?_map, hv] at hd
        cases hd
        exact .v v (List.all_eq_true.1 hall v (List.mem_of_getElem? hv)))
      show Rep w ok _ _
      simpa using this
    · trivial
  | tuple cs => trivial
  | _ => exact Rep.v _ rfl
theorem RepT.ext {w w' : World} {ok : Nat → Prop} {blk : Nat → Option Nat} {val : Nat → Value} {s : Nat → Site} {x : T} {v : Value} (h : RepT w ok blk val s x v) (hE : Ext w w') : RepT w' ok blk val s x v := by
  cases x with
  | d x => exact Rep.ext h hE fun _ _ h => h
  | own k r ds F => exact ⟨h.1, h.2.imp fun _ _ h => Rep.ext h hE fun _ _ h => h⟩
  | _ => exact h
theorem SiteIn.ext {w w' : World} {ok : Nat → Prop} {blk' : Nat → Option Nat} {val' : Nat → Value} {s : Nat → Site} {b : Option Nat} {val : Value} {x : Site} (h : SiteIn w ok blk' val' s b val x) (hE : Ext w w') : SiteIn w' ok blk' val' s b val x := by
  cases x with
  | no => exact h
  | box cs =>
    obtain ⟨b, e, vals, h1, h2, h3, h4, h5⟩ := h
    exact ⟨b, e, vals, h1, hE.heap h2, h3, h4, fun j d hd => let ⟨v, hv, hr⟩ := h5 j d hd; ⟨v, hv, hr.ext hE fun _ _ h => h⟩⟩
  | tbox cs =>
    obtain ⟨b, e, vals, h1, h2, h3, h5⟩ := h
    exact ⟨b, e, vals, h1, hE.heap h2, h3, fun j x hx => let ⟨v, hv, ho, hr⟩ := h5 j x hx; ⟨v, hv, ho, hr.ext hE⟩⟩
  | mp es c =>
    obtain ⟨b, ms, c0, h1, h2, h3⟩ := h
    exact ⟨b, ms, c0, h1, hE.heap h2, h3.imp fun _ _ h => h.ext hE fun _ _ h => h⟩
  | row e sz es =>
    obtain ⟨h1, h2, h3⟩ := h
    refine ⟨h1, h2, h3.imp id fun ⟨b, vals, cap, k1, k2, k3, k4, k5, k6, k7⟩ => ⟨b, vals, cap, k1, k2, k3, k4, hE.heap k5, k6, fun i x j d hi hj => let ⟨v, hv, hr⟩ := k7 i x j d hi hj; ⟨v, hv, hr.ext hE fun _ _ h => h⟩⟩⟩

theorem RepT.keepC {w w' : World} {ok : Nat → Prop} {blk : Nat → Option Nat} {val : Nat → Value} {s : Nat → Site} {x : T} {v : Value} (h : RepT w ok blk val s x v) (hE : CK w w') : RepT w' ok blk val s x v := by
  cases x with
  | d x => exact Rep.keepC h hE
  | own k r ds F => exact ⟨h.1, h.2.imp fun _ _ h => Rep.keepC h hE⟩
  | _ => exact h
theorem SiteIn.keepC {w w' : World} {ok : Nat → Prop} {blk' : Nat → Option Nat} {val' : Nat → Value} {s : Nat → Site} {b : Option Nat} {val : Value} {x : Site} (h : SiteIn w ok blk' val' s b val x) (hE : CK w w') : SiteIn w' ok blk' val' s b val x := by
  cases x with
  | no => exact h
  | box cs =>
    obtain ⟨b, e, vals, h1, h2, h3, h4, h5⟩ := h
    exact ⟨b, e, vals, h1, hE.cells _ _ _ _ h2, h3, h4, fun j d hd => let ⟨v, hv, hr⟩ := h5 j d hd; ⟨v, hv, hr.keepC hE⟩⟩
  | tbox cs =>
    obtain ⟨b, e, vals, h1, h2, h3, h5⟩ := h
    exact ⟨b, e, vals, h1, hE.cells _ _ _ _ h2, h3, fun j x hx => let ⟨v, hv, ho, hr⟩ := h5 j x hx; ⟨v, hv, ho, hr.keepC hE⟩⟩
  | mp es c =>
    obtain ⟨b, ms, c0, h1, h2, h3⟩ := h
    exact ⟨b, ms, c0, h1, hE.maps _ _ _ h2, h3.imp fun _ _ h => h.keepC hE⟩
  | row e sz es =>
    obtain ⟨h1, h2, h3⟩ := h
    refine ⟨h1, h2, h3.imp id fun ⟨b, vals, cap, k1, k2, k3, k4, k5, k6, k7⟩ => ⟨b, vals, cap, k1, k2, k3, k4, hE.cells _ _ _ _ k5, k6, fun i x j d hi hj => let ⟨v, hv, hr⟩ := k7 i x j d hi hj; ⟨v, hv, hr.keepC hE⟩⟩⟩

theorem Hold.ev {w0 : Cx} {st : St} {a : Act} {w : World} {blk : Nat → Option Nat} {val : Nat → Value} (h : Hold w0 st a w blk val) (y : Operand) : RepT w (okOf w0 blk) blk val st.s (st.ev y) (a.eval y) := by
  cases y with
  | tmp t => exact h.tmp t
  | const v => exact RepT.const v
  | global g => trivial
  | func f => exact Rep.fn (.func f) [] [] rfl (fun j d v h => by simp at h)
theorem SiteIn.cells {w : World} {ok : Nat → Prop} {blk' : Nat → Option Nat} {val' : Nat → Value} {s : Nat → Site} {b : Nat} {val : Value} {x : Site} (h : SiteIn w ok blk' val' s (some b) val x) : ∃ o, w.heap[b]? = some o ∧ ncO o = false := by
  cases x with
  | no => cases h
  | box cs => obtain ⟨b', e, vals, h1, h2, _⟩ := h; cases h1; exact ⟨_, h2, rfl⟩
  | tbox cs => obtain ⟨b', e, vals, h1, h2, _⟩ := h; cases h1; exact ⟨_, h2, rfl⟩
  | mp es c => obtain ⟨b', ms, c0, h1, h2, _⟩ := h; cases h1; exact ⟨_, h2, rfl⟩
  | row e sz es =>
    obtain ⟨_, _, h⟩ := h
    rcases h with ⟨h1, _⟩ | ⟨b', vals, cap, h1, _, _, _, h2, _⟩
    · cases h1
    · cases h1; exact ⟨_, h2, rfl⟩
theorem Hold.kept {w0 : Cx} {st : St} {a : Act} {w w' : World} {blk : Nat → Option Nat} {val : Nat → Value} (h : Hold w0 st a w blk val) (hk : ∀ b, b < w.heap.size → (∀ k, blk k ≠ some b) → w'.heap[b]? = w.heap[b]?) : Kept w0 a w' :=
  h.defers.of fun b o hb ho => by
    rw [hk b (heap_lt hb) fun k hkb => ?_]
    · exact hb
    · have := h.site k
      rw [hkb] at this
      obtain ⟨o', h1, h2⟩ := this.cells
      rw [hb] at h1; cases h1; rw [ho] at h2; cases h2
theorem Hold.ext' {w0 : Cx} {st : St} {a : Act} {w w' : World} {blk : Nat → Option Nat} {val : Nat → Value} (h : Hold w0 st a w blk val) (hE : Ext w w') : Hold w0 st a w' blk val :=
  ⟨h.ext.trans hE, h.defers.of fun b o hb _ => hE.heap hb, h.size, fun s b hb => ⟨(h.new s b hb).1, Nat.lt_of_lt_of_le (h.new s b hb).2 hE.size⟩, h.inj, h.pin, fun s => (h.site s).ext hE, fun t => (h.tmp t).ext hE⟩
theorem put_getD (a : Act) (d : Nat) (v : Value) (k : Nat) (hd : d < a.tmps.size) : (a.put (some d) v).tmps.getD k undef = if k = d then v else a.tmps.getD k undef := by
  simp only [Act.put]
  by_cases h : k = d
  · subst h; simp [hd]
  · simp [h, Ne.symm h]
theorem Hold.put {w0 : Cx} {st : St} {a : Act} {w : World} {blk : Nat → Option Nat} {val : Nat → Value} (h : Hold w0 st a w blk val) (dst : Option Tmp) (x : T) (v : Value)
    (hd : ∀ d, dst = some d → d < st.n) (hx : RepT w (okOf w0 blk) blk val st.s x v) : Hold w0 (st.put dst x) (a.put dst v) w blk val := by
  cases dst with
  | none => exact h
  | some d =>
    refine ⟨h.ext, h.defers.act rfl, by simpa [Act.put, St.put] using h.size, h.new, h.inj, h.pin, h.site, fun t => ?_⟩
    rw [put_getD _ _ _ _ (by rw [h.size]; exact hd d rfl)]
    show RepT w (okOf w0 blk) blk val st.s (bif Nat.beq t d then x else st.t t) _
    by_cases ht : t = d
    · subst ht; simpa using hx
    · have : Nat.beq t d = false := by rw [← Bool.not_eq_true]; exact fun e => ht (Nat.eq_of_beq_eq_true e)
      rw [this, if_neg ht]; exact h.tmp t
open Go

section
variable {P : Program} {w0 : Cx}

def Post (w0 : Cx) (R : Exit → St → Prop) : Exit → Act → World → Prop := fun e a w => ∃ st, R e st ∧ Holds w0 st a w
def FOk (F : Fence) : Prop := F = Fence.wide ∨ ∃ l, F = Fence.wide.inRound l
theorem FOk.fn {F : Fence} (h : FOk F) (f : FuncId) : F.fn f := by rcases h with rfl | ⟨l, rfl⟩ <;> trivial
theorem FOk.depth {F : Fence} (h : FOk F) : F.depth = none := by rcases h with rfl | ⟨l, rfl⟩ <;> rfl
theorem FOk.inRound {F : Fence} (h : FOk F) (l : Nat) : FOk (F.inRound l) := by
  rcases h with rfl | ⟨k, rfl⟩
  · exact .inr ⟨l, rfl⟩
  · exact .inr ⟨l, rfl⟩
theorem FOk.calls {F : Fence} (h : FOk F) {m : Nat} {P : Program} {f : FuncId} {args : Array Value} {w : World} {R : Ending → World → Prop} (hc : Calls P f args w R) : CallsIn F m P f args w R := by
  rcases h with rfl | ⟨l, rfl⟩
  · exact callsIn_wide.2 hc
  · exact CallsIn.inRound l (callsIn_wide.2 hc)
theorem FOk.rows {F : Fence} (h : FOk F) {m : Nat} {P : Program} {row : String} {args : Array Value} {w : World} {R : Value → World → Prop} (hc : Rows P row args w R) : RowsIn F m P row args w R := by
  have : RowsIn Fence.wide m P row args w R := fun c cs _ => let ⟨v, w', r, s⟩ := hc c cs; ⟨v, w', r, stepsIn_wide.2 s⟩
  rcases h with rfl | ⟨l, rfl⟩
  · exact this
  · exact this
def FAt (c : Cx) (F : Fence) : Prop := FOk F ∧ F.round = c.rnd
theorem FAt.fn {c : Cx} {F : Fence} (h : FAt c F) (f : FuncId) : F.fn f := h.1.fn f
def OW (P : Program) (c : Cx) (o : Oper) (a : Act) (w : World) (K : Act → World → Prop) : Prop := ∀ (F : Fence) (m : Nat), FAt c F → o.wpIn F m P a w K (fun _ _ _ => False)
theorem OW.mono {P : Program} {c : Cx} {o : Oper} {a : Act} {w : World} {K K' : Act → World → Prop} (h : OW P c o a w K) (hK : ∀ a w, K a w → K' a w) : OW P c o a w K' := fun F m hF => Oper.wpIn_mono hK (h F m hF)
theorem OW.to {P : Program} {c : Cx} {o : Oper} {a : Act} {w : World} {K K' : Act → World → Prop} {F : Fence} {m : Nat} {Q : Exit → Act → World → Prop} (h : OW P c o a w K) (hF : FAt c F) (hK : ∀ a w, K a w → K' a w) : o.wpIn F m P a w K' Q := by
  obtain ⟨h1, h2⟩ := h F m hF
  refine ⟨h1, ?_⟩
  generalize (o.semAt F.round a.eval).run P w = r at *
  unfold Oper.uponIn at *
  split <;> simp_all
  · exact h2.2.mono fun e w' h => by
      cases e with
      | returned v => exact hK _ _ h
      | panicked c => exact h.elim
      | outgrown => obtain ⟨_, _, h⟩ := h; exact h.elim
  · exact h2.2.mono fun v w' h => hK _ _ h
  · exact h2.2.mono fun e w' h => by
      cases e with
      | returned v => exact hK _ _ h
      | panicked c => exact h.elim
      | outgrown => obtain ⟨_, _, h⟩ := h; exact h.elim
theorem ow_of_wp {P : Program} {c : Cx} {o : Oper} {a : Act} {w : World} {K : Act → World → Prop} (hnd : ∀ c, o.op ≠ .defer c) (h : o.wp P a w K (fun _ _ _ => False)) : OW P c o a w K := by
  intro F m hF
  refine ⟨fun f _ => hF.fn f, ?_⟩
  rw [Oper.semAt_eq _ _ _ hnd]
  unfold Oper.wp at h
  generalize (execOp a.eval o).run P w = r at *
  unfold Oper.upon at h
  unfold Oper.uponIn
  split at h
  · exact h
  · exact h
  · exact h
  · exact ⟨fun hd => (by rw [hF.1.depth] at hd; cases hd), hF.1.calls h⟩
  · exact ⟨fun hd => (by rw [hF.1.depth] at hd; cases hd), hF.1.rows h⟩
  · exact h
  · exact h.elim
def Awp (P : Program) (w0 : Cx) (c : Code) (R : Exit → St → Prop) (st : St) : Prop := ∀ (F : Fence) (m : Nat), FAt w0 F → ∀ a w, Holds w0 st a w → c.wpIn F m P (Post w0 R) a w

theorem RepT.to {w : World} {ok ok' : Nat → Prop} {blk blk' : Nat → Option Nat} {val val' : Nat → Value} {s s' : Nat → Site} {x : T} {v : Value} (h : RepT w ok blk val s x v) (hok : ∀ b, b < w.heap.size → ok b → ok' b)
    (hk : ∀ k, (x = .rs k ∨ (∃ o, x = .ref k o) ∨ ∃ r f g, x = .own k r f g) → blk' k = blk k ∧ val' k = val k ∧ (s k ≠ .no → s' k ≠ .no) ∧ ((∃ e sz es, s k = .row e sz es) → ∃ e sz es, s' k = .row e sz es)) : RepT w ok' blk' val' s' x v := by
  cases x with
  | d x => exact Rep.ok (h : Rep w ok x v) hok
  | ref k o =>
    obtain ⟨q1, b, q2, q3⟩ := h
    obtain ⟨e1, _, e3, _⟩ := hk k (.inr (.inl ⟨o, rfl⟩))
    exact ⟨e3 q1, b, by rw [e1]; exact q2, q3⟩
  | rs k =>
    obtain ⟨q1, q2⟩ := h
    obtain ⟨_, e2, _, e4⟩ := hk k (.inl rfl)
    exact ⟨e4 q1, by rw [e2]; exact q2⟩
  | own k r f g =>
    obtain ⟨⟨⟨q0, q1⟩, qo⟩, q2⟩ := h
    obtain ⟨e1, e2, e3, e4⟩ := hk k (.inr (.inr ⟨r, f, g, rfl⟩))
    exact ⟨⟨⟨e3 q0, fun hr => e4 (q1 hr)⟩, qo⟩, by rw [e1, e2]; exact q2.imp fun _ _ h => Rep.ok h hok⟩
  | un => exact h
  | dead => trivial
theorem SiteIn.to {w : World} {ok ok' : Nat → Prop} {blk blk' : Nat → Option Nat} {val val' : Nat → Value} {s s' : Nat → Site} {b : Option Nat} {u : Value} {x x' : Site} (h : SiteIn w ok blk val s b u x) (hok : ∀ b, b < w.heap.size → ok b → ok' b)
    (hx : x' = x ∨ ∃ cs cs', x = .tbox cs ∧ x' = .tbox cs' ∧ cs'.length = cs.length ∧ ∀ (j : Nat) (y : T), cs'[j]? = some y → y = .dead ∨ cs[j]? = some y)
    (hk : ∀ cs, x' = .tbox cs → ∀ y ∈ cs, ∀ k, (y = .rs k ∨ (∃ o, y = .ref k o) ∨ ∃ r f g, y = .own k r f g) → blk' k = blk k ∧ val' k = val k ∧ (s k ≠ .no → s' k ≠ .no) ∧ ((∃ e sz es, s k = .row e sz es) → ∃ e sz es, s' k = .row e sz es)) : SiteIn w ok' blk' val' s' b u x' := by
  rcases hx with rfl | ⟨cs, cs', rfl, rfl, hl, hc⟩
  · cases x' with
    | no => exact h
    | box cs =>
      obtain ⟨b, e, vals, h1, h2, h3, h4, h5⟩ := h
      exact ⟨b, e, vals, h1, h2, h3, h4, fun j d hd => let ⟨v, hv, hr⟩ := h5 j d hd; ⟨v, hv, hr.ok hok⟩⟩
    | tbox cs =>
      obtain ⟨b, e, vals, h1, h2, h3, h5⟩ := h
      exact ⟨b, e, vals, h1, h2, h3, fun j y hy => let ⟨v, hv, ho, hr⟩ := h5 j y hy; ⟨v, hv, ho, hr.to hok (hk cs rfl y (List.mem_of_getElem? hy))⟩⟩
    | mp es c => obtain ⟨b, ms, c0, h1, h2, h3⟩ := h; exact ⟨b, ms, c0, h1, h2, h3.imp fun _ _ h => h.ok hok⟩
    | row e sz es =>
      obtain ⟨h1, h2, h3⟩ := h
      exact ⟨h1, h2, h3.imp id fun ⟨b, vals, cap, k1, k2, k3, k4, k5, k6, k7⟩ => ⟨b, vals, cap, k1, k2, k3, k4, k5, k6, fun i x j d hi hj => let ⟨v, hv, hr⟩ := k7 i x j d hi hj; ⟨v, hv, hr.ok hok⟩⟩⟩
  · obtain ⟨b, e, vals, h1, h2, h3, h5⟩ := h
    refine ⟨b, e, vals, h1, h2, by omega, fun j y hy => ?_⟩
    rcases hc j y hy with rfl | hy'
    · have hj : j < cs.length := by have := (List.getElem?_eq_some_iff.1 hy).1; omega
      obtain ⟨v, hv, ho, _⟩ := h5 j cs[j] (List.getElem?_eq_getElem hj)
      exact ⟨v, hv, ho, trivial⟩
    · obtain ⟨v, hv, ho, hr⟩ := h5 j y hy'
      exact ⟨v, hv, ho, hr.to hok (hk cs' rfl y (List.mem_of_getElem? hy))⟩
def refs (x : T) (k : Nat) : Prop := x = .rs k ∨ (∃ o, x = .ref k o) ∨ ∃ r f g, x = .own k r f g
structure Sub (s : Nat → Site) (ev : Operand → T) (s' : Nat → Site) : Prop where
  at_ : ∀ k, s' k = s k ∨ (s k = .no ∧ ∀ y, ¬ refs (ev y) k)
  tb : ∀ k cs, s k = .tbox cs → ∀ x ∈ cs, ∀ j, refs x j → s' j = s j
theorem Sub.refl (s : Nat → Site) (ev : Operand → T) : Sub s ev s := ⟨fun _ => .inl rfl, fun _ _ _ _ _ _ _ => rfl⟩
def QOp (P : Program) (w0 : Cx) (n : Nat) (s : Nat → Site) (ev : Operand → T) (o : Oper) (x : T) : Prop :=
  ∀ st a w, Holds w0 st a w → Sub s ev st.s → st.n = n → (∀ y, ev y = .dead ∨ st.ev y = ev y) → (∀ d, o.dst = some d → d < n) →
    OW P w0 o a w (fun a' w' => Holds w0 (st.put o.dst x) a' w')

def T.bool (b : Bool) : T := .d (.v (.bool b))
def dstIs (o : Oper) (t : Tmp) : Bool := match o.dst with | some d => Nat.beq d t | none => false
def prodGo : Nat → List Oper → Nat → Tmp → Option Nat
  | 0, _, _, _ => none
  | _ + 1, [], _, _ => none
  | n + 1, o :: os, i, t => bif dstIs o t then some i else prodGo n os (i + 1) t
def prodIdx (l : List Oper) (n : Nat) (t : Tmp) : Option Nat := prodGo n l 0 t
def afterB (o : Oper) (j : Nat) : Bool := o.after.toList.any fun e => Region.binds .any e && Nat.beq e.on j
def guardOf (l : List Oper) (i : Nat) : Option (Nat × Bool) := (l[i]?).bind (·.guard)
def chainG (l : List Oper) : Nat → Option (Nat × Bool) → List (Nat × Bool)
  | 0, _ => []
  | _, none => []
  | f + 1, some (j, b) => (j, b) :: chainG l f (guardOf l j)
def guardsOf (l : List Oper) (i : Nat) : List (Nat × Bool) := chainG l (i + 1) (guardOf l i)
def GH (xs : Nat → T) : List (Nat × Bool) → Prop
  | [] => True
  | (j, b) :: gs => xs j = T.bool b ∧ GH xs gs
def evAt (st : St) (l : List Oper) (n : Nat) (xs : Nat → T) (i : Nat) (o : Oper) (gs : List (Nat × Bool)) : Operand → T
  | .tmp t =>
    match prodIdx l n t with
    | none => st.t t
    | some p => if afterB o p then (if (guardsOf l p).all (gs.contains ·) then xs p else .dead)
      else if Nat.beq p i || ((l[p]?).map (afterB · i)).getD false then st.t t else .dead
  | y => st.ev y

open Classical in
noncomputable def stOf (st : St) (l : List Oper) (n : Nat) (xs : Nat → T) (L : Nat → Bool) : St :=
  { st with t := fun t => match prodIdx l n t with
    | none => st.t t
    | some p => if L p then (if GH xs (guardsOf l p) then xs p else .un) else st.t t }

def regOk1 (l : List Oper) (n N : Nat) (i : Nat) (o : Oper) : Bool :=
  (o.after.toList.all fun e => !Region.binds .any e || decide (e.on < i)) &&
  (match o.dst with | none => true | some d => prodIdx l n d == some i && decide (d < N)) &&
  (match o.guard with | none => true | some (j, _) => afterB o j && ((l[j]?).bind (·.dst)).isSome)
def regB (l : List Oper) (n N : Nat) : Bool := (List.range n).all fun i => match l[i]? with | none => false | some o => regOk1 l n N i o

theorem regB_at {l : List Oper} {n N i : Nat} {o : Oper} (h : regB l n N = true) (hi : i < n) (ho : l[i]? = some o) : regOk1 l n N i o = true := by
  have := List.all_eq_true.1 h i (List.mem_range.2 hi)
  rw [ho] at this; exact this
theorem afterB_spec {o : Oper} {j : Nat} (h : afterB o j = true) : ∃ e ∈ o.after, Region.binds .any e = true ∧ e.on = j := by
  obtain ⟨e, he, hb⟩ := List.any_eq_true.1 h
  rw [Bool.and_eq_true] at hb
  exact ⟨e, by simpa using he, hb.1, Nat.eq_of_beq_eq_true hb.2⟩
theorem reg_before {l : List Oper} {n N i : Nat} {o : Oper} (h : regB l n N = true) (hi : i < n) (ho : l[i]? = some o) : ∀ e ∈ o.after, Region.binds .any e = true → e.on < i := by
  intro e he hb
  have h1 := regB_at h hi ho
  simp only [regOk1, Bool.and_eq_true] at h1
  have h2 := List.all_eq_true.1 h1.1.1 e (by simpa using he)
  simpa [hb] using h2
theorem reg_dst {l : List Oper} {n N i : Nat} {o : Oper} {d : Nat} (h : regB l n N = true) (hi : i < n) (ho : l[i]? = some o) (hd : o.dst = some d) : prodIdx l n d = some i ∧ d < N := by
  have h1 := regB_at h hi ho
  simp only [regOk1, Bool.and_eq_true, hd, beq_iff_eq, decide_eq_true_eq] at h1
  exact h1.1.2
theorem reg_guard {l : List Oper} {n N i j : Nat} {b : Bool} {o : Oper} (h : regB l n N = true) (hi : i < n) (ho : l[i]? = some o) (hg : o.guard = some (j, b)) : afterB o j = true ∧ j < i := by
  have h1 := regB_at h hi ho
  simp only [regOk1, Bool.and_eq_true, hg] at h1
  obtain ⟨e, he, hb, hj⟩ := afterB_spec h1.2.1
  exact ⟨h1.2.1, hj ▸ reg_before h hi ho e he hb⟩
theorem reg_guard_dst {l : List Oper} {n N i j : Nat} {b : Bool} {o : Oper} (h : regB l n N = true) (hi : i < n) (ho : l[i]? = some o) (hg : o.guard = some (j, b)) : ((l[j]?).bind (·.dst)).isSome = true := by
  have h1 := regB_at h hi ho
  simp only [regOk1, Bool.and_eq_true, hg] at h1
  exact h1.2.2
theorem chain_fuel {l : List Oper} {n N : Nat} (h : regB l n N = true) : ∀ (i f : Nat), i < n → i < f → chainG l f (guardOf l i) = guardsOf l i := by
  intro i
  induction i using Nat.strongRecOn with
  | _ i ih =>
    intro f hi hf
    obtain ⟨f, rfl⟩ : ∃ g, f = g + 1 := ⟨f - 1, by omega⟩
    unfold guardsOf
    cases hg : guardOf l i with
    | none => rfl
    | some jb =>
      obtain ⟨j, b⟩ := jb
      cases ho : l[i]? with
      | none => simp [guardOf, ho] at hg
      | some o =>
        have hog : o.guard = some (j, b) := by simpa [guardOf, ho] using hg
        have hj := (reg_guard h hi ho hog).2
        simp only [chainG]
        rw [ih j hj f (by omega) (by omega), ih j hj i (by omega) (by omega)]
theorem guards_none {l : List Oper} {i : Nat} {o : Oper} (ho : l[i]? = some o) (hg : o.guard = none) : guardsOf l i = [] := by
  simp [guardsOf, guardOf, ho, hg, chainG]
theorem guards_some {l : List Oper} {n N i j : Nat} {b : Bool} {o : Oper} (h : regB l n N = true) (hi : i < n) (ho : l[i]? = some o) (hg : o.guard = some (j, b)) : guardsOf l i = (j, b) :: guardsOf l j := by
  have hj := (reg_guard h hi ho hg).2
  have : guardOf l i = some (j, b) := by simp [guardOf, ho, hg]
  unfold guardsOf
  rw [this]
  simp only [chainG]
  rw [chain_fuel h j i (by omega) hj]
  rfl
theorem GH.mem {xs : Nat → T} : ∀ {gs : List (Nat × Bool)}, GH xs gs → ∀ g ∈ gs, xs g.1 = T.bool g.2
  | [], _, g, hg => by cases hg
  | (j, b) :: gs, h, g, hg => by
    rcases List.mem_cons.1 hg with rfl | h'
    · exact h.1
    · exact GH.mem h.2 g h'
theorem GH.of {xs : Nat → T} : ∀ {gs : List (Nat × Bool)}, (∀ g ∈ gs, xs g.1 = T.bool g.2) → GH xs gs
  | [], _ => trivial
  | (j, b) :: gs, h => ⟨h (j, b) (by simp), GH.of fun g hg => h g (by simp [hg])⟩

theorem prodGo_spec : ∀ {n : Nat} {l : List Oper} {i p : Nat} {t : Tmp}, prodGo n l i t = some p → i ≤ p ∧ p < i + n ∧ ∃ o, l[p - i]? = some o ∧ o.dst = some t
  | 0, _, _, _, _, h => by simp [prodGo] at h
  | n + 1, [], _, _, _, h => by simp [prodGo] at h
  | n + 1, o :: os, i, p, t, h => by
    simp only [prodGo] at h
    cases hd : dstIs o t with
    | true =>
      rw [hd] at h
      simp only [cond_true, Option.some.injEq] at h
      subst h
      refine ⟨Nat.le_refl _, by omega, o, by simp, ?_⟩
      unfold dstIs at hd
      cases ho : o.dst with
      | none => rw [ho] at hd; cases hd
      | some d => rw [ho] at hd; rw [Nat.eq_of_beq_eq_true hd]
    | false =>
      rw [hd] at h
      obtain ⟨h1, h2, o', h3, h4⟩ := prodGo_spec h
      exact ⟨by omega, by omega, o', by rw [show p - i = (p - (i + 1)) + 1 by omega]; simpa using h3, h4⟩
theorem prodIdx_spec {l : List Oper} {n p : Nat} {t : Tmp} (h : prodIdx l n t = some p) : p < n ∧ ∃ o, l[p]? = some o ∧ o.dst = some t := by
  obtain ⟨_, h2, o, h3, h4⟩ := prodGo_spec h
  exact ⟨by omega, o, by simpa using h3, h4⟩

structure Done (l : List Oper) (n : Nat) (L : Nat → Bool) : Prop where
  closed : ∀ p o, p < n → l[p]? = some o → L p = true → ∀ e ∈ o.after, Region.binds .any e = true → L e.on = true

open Classical in
theorem evAt_sound {st : St} {l : List Oper} {n N i : Nat} {xs : Nat → T} {o : Oper} {gs : List (Nat × Bool)} {L : Nat → Bool} (h : regB l n N = true) (ho : l[i]? = some o)
    (hD : Done l n L) (hLi : L i = false) (hLa : ∀ e ∈ o.after, Region.binds .any e = true → L e.on = true) (hg : GH xs gs) (y : Operand) :
    evAt st l n xs i o gs y = .dead ∨ (stOf st l n xs L).ev y = evAt st l n xs i o gs y := by
  cases y with
  | tmp t =>
    simp only [evAt, St.ev, stOf]
    cases hp : prodIdx l n t with
    | none => exact .inr rfl
    | some p =>
      simp only
      by_cases ha : afterB o p = true
      · obtain ⟨e, he, hb, hj⟩ := afterB_spec ha
        have hLp : L p = true := hj ▸ hLa e he hb
        simp only [ha, if_true, hLp]
        by_cases hv : (guardsOf l p).all (gs.contains ·) = true
        · have hgp : GH xs (guardsOf l p) := GH.of fun g hg' => hg.mem g (by have := List.all_eq_true.1 hv g hg'; simpa using this)
          simp only [hv, if_true, if_pos hgp]
          exact .inr trivial
        · exact .inl (if_neg hv)
      · rw [if_neg ha]
        obtain ⟨hpn, op, hop, hdp⟩ := prodIdx_spec hp
        by_cases hc : (Nat.beq p i || ((l[p]?).map (afterB · i)).getD false) = true
        · have hLp : L p = false := by
            rw [Bool.or_eq_true] at hc
            rcases hc with hc | hc
            · rw [Nat.eq_of_beq_eq_true hc]; exact hLi
            · rw [← Bool.not_eq_true]
              intro hLp
              simp only [hop, Option.map_some, Option.getD_some] at hc
              obtain ⟨e, he, hb, hj⟩ := afterB_spec hc
              have := hD.closed p op hpn hop hLp e he hb
              rw [hj, hLi] at this; cases this
          simp only [hLp, hc, if_true]
          exact .inr (by simp)
        · exact .inl (if_neg hc)
  | const v => exact .inr rfl
  | global g => exact .inr rfl
  | func f => exact .inr rfl

def setL (L : Nat → Bool) (i : Nat) : Nat → Bool := fun j => j == i || L j
open Classical in
theorem stOf_set {st : St} {l : List Oper} {n N i : Nat} {xs : Nat → T} {o : Oper} {L : Nat → Bool} (h : regB l n N = true) (hi : i < n) (ho : l[i]? = some o) (hLi : L i = false) :
    stOf st l n xs (setL L i) = (stOf st l n xs L).put o.dst (if GH xs (guardsOf l i) then xs i else .un) := by
  cases hd : o.dst with
  | none =>
    simp only [St.put, stOf, St.mk.injEq, true_and, and_true]
    funext t
    cases hp : prodIdx l n t with
    | none => rfl
    | some p =>
      obtain ⟨_, op, hop, hdp⟩ := prodIdx_spec hp
      have hpi : p ≠ i := fun e => by subst e; rw [hop] at ho; cases ho; rw [hd] at hdp; cases hdp
      have : setL L i p = L p := by simp [setL, hpi]
      simp only [this]
  | some d =>
    obtain ⟨hpd, _⟩ := reg_dst h hi ho hd
    simp only [St.put, stOf, St.mk.injEq, true_and, and_true]
    funext t
    by_cases htd : t = d
    · subst htd
      rw [hpd]
      simp [setL]
    · have : Nat.beq t d = false := by rw [← Bool.not_eq_true]; exact fun e => htd (Nat.eq_of_beq_eq_true e)
      rw [this]
      simp only [cond_false]
      cases hp : prodIdx l n t with
      | none => rfl
      | some p =>
        obtain ⟨_, op, hop, hdp⟩ := prodIdx_spec hp
        have hpi : p ≠ i := fun e => by subst e; rw [hop] at ho; cases ho; rw [hd] at hdp; cases hdp; exact htd rfl
        have : setL L i p = L p := by simp [setL, hpi]
        simp only [this]

def SOp (P : Program) (w0 : Cx) (st : St) (l : List Oper) (n : Nat) (xs : Nat → T) (i : Nat) (o : Oper) (gs : List (Nat × Bool)) (x : T) : Prop :=
  QOp P w0 st.n st.s (evAt st l n xs i o gs) o x ∨
  ∃ tc a b jc cb p q, o.op = .pick (.tmp tc) a b ∧ prodIdx l n tc = some jc ∧ afterB o jc = true ∧ xs jc = T.bool cb ∧ evAt st l n xs i o gs (.tmp tc) = T.bool cb ∧
    evAt st l n xs i o ((jc, true) :: gs) a = T.bool p ∧ evAt st l n xs i o ((jc, false) :: gs) b = T.bool q ∧ x = T.bool (bif cb then p else q)

theorem Rep.v_eq {w : World} {ok : Nat → Prop} {x v : Value} (h : Rep w ok (.v x) v) : v = x := by
  generalize hd : D.v x = d at h
  cases h <;> cases hd
  rfl
theorem Hold.bool {st : St} {a : Act} {w : World} {blk : Nat → Option Nat} {val : Nat → Value} (h : Hold w0 st a w blk val) {y : Operand} {b : Bool} (hy : st.ev y = T.bool b) : a.eval y = .bool b := by
  have := h.ev y
  rw [hy] at this
  exact Rep.v_eq this
theorem wp_value {o : Oper} {a : Act} {w w' : World} {v : Value} {K : Act → World → Prop} (h : (execOp a.eval o).run P w = .ok (.value v) w') (hK : K (a.put o.dst v) w') : OW P w0 o a w K := by
  refine ow_of_wp (fun c hc => ?_) (by unfold Oper.wp; rw [h]; exact hK)
  unfold execOp at h
  rw [hc] at h
  simp only [Sem.run_bind] at h
  generalize (resolve a.eval c o.type).run P w = r at h
  cases r <;> simp [Result.andThen] at h

theorem sop_wp {st : St} {l : List Oper} {n i : Nat} {xs : Nat → T} {o : Oper} {L : Nat → Bool} {a : Act} {w : World} (h : regB l n st.n = true) (hi : i < n) (ho : l[i]? = some o)
    (hD : Done l n L) (hLi : L i = false) (hLa : ∀ e ∈ o.after, Region.binds .any e = true → L e.on = true) (hH : Holds w0 (stOf st l n xs L) a w) (hg : GH xs (guardsOf l i)) (hS : SOp P w0 st l n xs i o (guardsOf l i) (xs i)) :
    OW P w0 o a w (fun a' w' => Holds w0 (stOf st l n xs (setL L i)) a' w') := by
  rw [stOf_set h hi ho hLi, if_pos hg]
  have hdn : ∀ d, o.dst = some d → d < st.n := fun d hd => (reg_dst h hi ho hd).2
  rcases hS with hq | ⟨tc, ya, yb, jc, cb, p, q, hop, hpj, _, hx, hc, ha, hb, hr⟩
  · exact hq _ a w hH (Sub.refl _ _) rfl (fun y => evAt_sound h ho hD hLi hLa hg y) hdn
  · obtain ⟨blk, val, hh⟩ := hH
    have h1 : (stOf st l n xs L).ev (.tmp tc) = T.bool cb := by
      rcases evAt_sound (st := st) h ho hD hLi hLa hg (.tmp tc) with e | e
      · rw [hc] at e; cases e
      · rw [e, hc]
    have hv := hh.bool h1
    have h2 : a.eval (if cb then ya else yb) = .bool (bif cb then p else q) := by
      cases cb with
      | true =>
        have hg' : GH xs ((jc, true) :: guardsOf l i) := ⟨hx, hg⟩
        rcases evAt_sound (st := st) h ho hD hLi hLa hg' ya with e | e
        · rw [ha] at e; cases e
        · exact hh.bool (by rw [if_pos rfl, e, ha]; rfl)
      | false =>
        have hg' : GH xs ((jc, false) :: guardsOf l i) := ⟨hx, hg⟩
        rcases evAt_sound (st := st) h ho hD hLi hLa hg' yb with e | e
        · rw [hb] at e; cases e
        · exact hh.bool (by rw [if_neg (by simp), e, hb]; rfl)
    refine wp_value (v := .bool (bif cb then p else q)) (w' := w) ?_ ⟨blk, val, ?_⟩
    · simp only [execOp, hop, hv]
      have : (if cb = true then a.eval ya else a.eval yb) = .bool (bif cb then p else q) := by rw [← h2]; cases cb <;> rfl
      show Sem.run P (Sem.pure (Next.value (if cb = true then a.eval ya else a.eval yb))) w = _
      rw [this]; rfl
    · exact hh.put o.dst _ _ hdn (by rw [hr]; exact Rep.v _ rfl)

def Owes (P : Program) (w0 : Cx) (st : St) (l : List Oper) (n : Nat) (xs : Nat → T) (i : Nat) (o : Oper) : Prop :=
  (∀ j b, o.guard = some (j, b) → ∃ c, xs j = T.bool c) ∧ (GH xs (guardsOf l i) → SOp P w0 st l n xs i o (guardsOf l i) (xs i))

open Classical in
theorem reg_step {st : St} {l : List Oper} {n i : Nat} {xs : Nat → T} {o : Oper} {L : Nat → Bool} {a : Act} {w : World} (h : regB l n st.n = true) (hi : i < n) (ho : l[i]? = some o)
    (hD : Done l n L) (hLi : L i = false) (hLa : ∀ e ∈ o.after, Region.binds .any e = true → L e.on = true) (hH : Holds w0 (stOf st l n xs L) a w) (hS : Owes P w0 st l n xs i o) :
    (Region.wanted o (yielded l.toArray a.tmps) = true ∧ OW P w0 o a w (fun a' w' => Holds w0 (stOf st l n xs (setL L i)) a' w')) ∨
    (Region.wanted o (yielded l.toArray a.tmps) = false ∧ Holds w0 (stOf st l n xs (setL L i)) (a.put o.dst undef) w) := by
  have key : Region.wanted o (yielded l.toArray a.tmps) = decide (GH xs (guardsOf l i)) := by
    cases hg : o.guard with
    | none => simp [Region.wanted, hg, guards_none ho hg, GH]
    | some jb =>
      obtain ⟨j, b⟩ := jb
      obtain ⟨hj1, hj2⟩ := reg_guard h hi ho hg
      obtain ⟨e, he, hb, hej⟩ := afterB_spec hj1
      have hLj : L j = true := hej ▸ hLa e he hb
      obtain ⟨c, hc⟩ := hS.1 j b hg
      rw [guards_some h hi ho hg]
      simp only [Region.wanted, hg]
      obtain ⟨blk, val, hh⟩ := hH
      have hjn : j < n := by omega
      obtain ⟨oj, hoj⟩ : ∃ oj, l[j]? = some oj := by
        cases ho' : l[j]? with
        | none => have := List.getElem?_eq_none_iff.1 ho'; have := (List.getElem?_eq_some_iff.1 ho).1; omega
        | some oj => exact ⟨oj, rfl⟩
      cases hdj : oj.dst with
      | none =>
        -- a guard that yields nothing: impossible where it has a value
        have hy : yielded l.toArray a.tmps j = none := by simp [yielded, hoj, hdj]
        exfalso
        exact absurd (reg_guard_dst h hi ho hg) (by rw [hoj]; simp [hdj])
      | some d =>
        obtain ⟨hpd, hdN⟩ := reg_dst h hjn hoj hdj
        have hval := hh.tmp d
        have hst : (stOf st l n xs L).t d = if GH xs (guardsOf l j) then xs j else .un := by
          simp only [stOf, hpd, hLj, if_true]
        rw [hst] at hval
        have hds : d < a.tmps.size := by rw [hh.size]; exact hdN
        have hy : yielded l.toArray a.tmps j = match a.tmps.getD d undef with | .bool b => some b | _ => none := by
          simp [yielded, hoj, hdj, hds]
          cases a.tmps[d] <;> rfl
        by_cases hgj : GH xs (guardsOf l j)
        · rw [if_pos hgj, hc] at hval
          have : a.tmps.getD d undef = .bool c := Rep.v_eq hval
          rw [hy, this]
          simp only [GH, hgj, and_true, hc, T.bool, T.d.injEq, D.v.injEq, Value.bool.injEq]
          cases c <;> cases b <;> simp
        · rw [if_neg hgj] at hval
          rw [hy, show a.tmps.getD d undef = undef from hval]
          simp [GH, hgj, undef]
  rw [key]
  by_cases hg : GH xs (guardsOf l i)
  · exact .inl ⟨by simpa using hg, sop_wp h hi ho hD hLi hLa hH hg (hS.2 hg)⟩
  · refine .inr ⟨by simpa using hg, ?_⟩
    obtain ⟨blk, val, hh⟩ := hH
    rw [stOf_set h hi ho hLi, if_neg hg]
    exact ⟨blk, val, hh.put o.dst .un undef (fun d hd => (reg_dst h hi ho hd).2) rfl⟩
end
open Go

section
variable {P : Program} {w0 : Cx}

def upd (e : Nat → T) (i : Nat) (x : T) : Nat → T := fun j => bif Nat.beq j i then x else e j
def gsOf (l : List Oper) (i : Nat) (o : Oper) : List (Nat × Bool) := match o.guard with | none => [] | some _ => guardsOf l i
def outX (o : Oper) (x : T) : T := match o.guard with | none => x | some _ => .dead
def RegW (P : Program) (w0 : Cx) (st : St) (l : List Oper) (n : Nat) : List Oper → Nat → (Nat → T) → St → (St → Prop) → Prop
  | [], _, _, st', K => K st'
  | o :: os, i, e, st', K => ∃ x, (∀ j b, o.guard = some (j, b) → ∃ c, e j = T.bool c) ∧ (GH e (gsOf l i o) → SOp P w0 st l n e i o (gsOf l i o) x) ∧
      RegW P w0 st l n os (i + 1) (upd e i x) (st'.put o.dst (outX o x)) K
def outP (xs : Nat → T) : List Oper → Nat → St → St
  | [], _, s => s
  | o :: os, i, s => outP xs os (i + 1) (s.put o.dst (outX o (xs i)))

theorem guards_lt {l : List Oper} {n N : Nat} (h : regB l n N = true) : ∀ (i : Nat), i < n → ∀ g ∈ guardsOf l i, g.1 < i := by
  intro i
  induction i using Nat.strongRecOn with
  | _ i ih =>
    intro hi g hg
    cases ho : l[i]? with
    | none => simp [guardsOf, guardOf, ho, chainG] at hg
    | some o =>
      cases hgo : o.guard with
      | none => rw [guards_none ho hgo] at hg; cases hg
      | some jb =>
        obtain ⟨j, b⟩ := jb
        have hj := (reg_guard h hi ho hgo).2
        rw [guards_some h hi ho hgo] at hg
        rcases List.mem_cons.1 hg with rfl | hg
        · exact hj
        · have := ih j hj (by omega) g hg; omega
theorem GH.congr {e xs : Nat → T} : ∀ {gs : List (Nat × Bool)}, (∀ g ∈ gs, e g.1 = xs g.1) → GH e gs → GH xs gs
  | [], _, _ => trivial
  | (j, b) :: gs, h, hh => ⟨by rw [← h (j, b) (by simp)]; exact hh.1, GH.congr (fun g hg => h g (by simp [hg])) hh.2⟩
theorem evAt_congr {st : St} {l : List Oper} {n N i : Nat} {e xs : Nat → T} {o : Oper} {gs : List (Nat × Bool)} (h : regB l n N = true) (hi : i < n) (ho : l[i]? = some o)
    (he : ∀ p, p < i → e p = xs p) (y : Operand) : evAt st l n e i o gs y = evAt st l n xs i o gs y := by
  cases y with
  | tmp t =>
    simp only [evAt]
    cases hp : prodIdx l n t with
    | none => rfl
    | some p =>
      simp only
      by_cases ha : afterB o p = true
      · obtain ⟨ed, hed, hb, hj⟩ := afterB_spec ha
        have := reg_before h hi ho ed hed hb
        rw [he p (by omega)]
      · rw [if_neg ha, if_neg ha]
  | _ => rfl
theorem QOp.congr {n : Nat} {s : Nat → Site} {ev ev' : Operand → T} {o : Oper} {x : T} (he : ∀ y, ev y = ev' y) (h : QOp P w0 n s ev o x) : QOp P w0 n s ev' o x := by
  have : ev = ev' := funext he
  rw [← this]; exact h
theorem SOp.congr {st : St} {l : List Oper} {n i : Nat} {e xs : Nat → T} {o : Oper} {gs : List (Nat × Bool)} {x : T} {N : Nat} (h : regB l n N = true) (hi : i < n) (ho : l[i]? = some o)
    (he : ∀ p, p < i → e p = xs p) (hS : SOp P w0 st l n e i o gs x) : SOp P w0 st l n xs i o gs x := by
  rcases hS with hq | ⟨tc, ya, yb, jc, cb, p, q, hop, hpj, hab, hx, hc, ha, hb, hr⟩
  · exact .inl (hq.congr (evAt_congr h hi ho he))
  · obtain ⟨ed, hed, hbd, hj⟩ := afterB_spec hab
    have := reg_before h hi ho ed hed hbd
    refine .inr ⟨tc, ya, yb, jc, cb, p, q, hop, hpj, hab, by rw [← he jc (by omega)]; exact hx, ?_, ?_, ?_, hr⟩
    · rw [← evAt_congr h hi ho he]; exact hc
    · rw [← evAt_congr h hi ho he]; exact ha
    · rw [← evAt_congr h hi ho he]; exact hb

theorem regw_xs {st : St} {l : List Oper} {n N : Nat} {K : St → Prop} (h : regB l n N = true) : ∀ (os : List Oper) (i : Nat) (e : Nat → T) (st' : St), i + os.length = n → (∀ k, k < os.length → os[k]? = l[i + k]?) →
    RegW P w0 st l n os i e st' K → ∃ xs : Nat → T, (∀ p, p < i → xs p = e p) ∧ (∀ k o, i ≤ k → k < n → l[k]? = some o → Owes P w0 st l n xs k o) ∧ K (outP xs os i st')
  | [], i, e, st', hl, _, hW => ⟨e, fun _ _ => rfl, fun k o h1 h2 _ => by simp at hl; omega, hW⟩
  | o :: os, i, e, st', hl, hos, hW => by
    obtain ⟨x, h1, h2, h3⟩ := hW
    have ho : l[i]? = some o := by have := hos 0 (by simp); simpa using this.symm
    have hi : i < n := by simp at hl; omega
    obtain ⟨xs, k1, k2, k3⟩ := regw_xs h os (i + 1) _ _ (by simp at hl; omega) (fun k hk => by have := hos (k + 1) (by simpa using hk); simpa [Nat.add_assoc, Nat.add_comm 1 k] using this) h3
    have hxe : ∀ p, p < i → xs p = e p := fun p hp => by
      rw [k1 p (by omega)]
      have : Nat.beq p i = false := by rw [← Bool.not_eq_true]; exact fun e => by have := Nat.eq_of_beq_eq_true e; omega
      simp [upd, this]
    have hxi : xs i = x := by rw [k1 i (by omega)]; simp [upd]
    refine ⟨xs, hxe, fun k o' hik hkn hok => ?_, ?_⟩
    · by_cases hk : k = i
      · subst hk
        rw [ho] at hok; cases hok
        have hgs : gsOf l k o = guardsOf l k := by
          unfold gsOf
          cases hg : o.guard with
          | none => exact (guards_none ho hg).symm
          | some _ => rfl
        rw [hgs] at h2
        refine ⟨fun j b hj => ?_, fun hG => ?_⟩
        · obtain ⟨c, hc⟩ := h1 j b hj
          exact ⟨c, by rw [hxe j (reg_guard h hi ho hj).2]; exact hc⟩
        · rw [hxi]
          exact SOp.congr h hi ho (fun p hp => (hxe p hp).symm) (h2 (GH.congr (fun g hg => hxe g.1 (guards_lt h k hi g hg)) hG))
      · exact k2 k o' (by omega) hkn hok
    · simp only [outP]
      rw [hxi]; exact k3

def Wk (s s' : St) : Prop := s'.n = s.n ∧ s'.s = s.s ∧ ∀ t, s'.t t = s.t t ∨ s'.t t = .dead
theorem Holds.weak {s s' : St} {a : Act} {w : World} (h : Holds w0 s a w) (hw : Wk s s') : Holds w0 s' a w := by
  obtain ⟨blk, val, hh⟩ := h
  obtain ⟨h1, h2, h3⟩ := hw
  refine ⟨blk, val, hh.ext, hh.defers, by rw [h1]; exact hh.size, hh.new, hh.inj, by rw [h1, h2]; exact hh.pin, by rw [h2]; exact hh.site, fun t => ?_⟩
  rw [h2]
  rcases h3 t with e | e
  · rw [e]; exact hh.tmp t
  · rw [e]; trivial
theorem Wk.put {s s' : St} {dst : Option Tmp} {x x' : T} (h : Wk s s') (hx : x' = x ∨ x' = .dead) : Wk (s.put dst x) (s'.put dst x') := by
  cases dst with
  | none => exact h
  | some d =>
    refine ⟨h.1, h.2.1, fun t => ?_⟩
    simp only [St.put]
    cases Nat.beq t d
    · exact h.2.2 t
    · exact hx
def ltB (i : Nat) : Nat → Bool := fun j => decide (j < i)
theorem setL_ltB (i : Nat) : setL (ltB i) i = ltB (i + 1) := by
  funext j
  simp only [setL, ltB]
  rw [Bool.eq_iff_iff]
  simp
  omega
theorem out_wk {st : St} {l : List Oper} {n N : Nat} {xs : Nat → T} (h : regB l n N = true) : ∀ (os : List Oper) (i : Nat) (s' : St), i + os.length = n → (∀ k, k < os.length → os[k]? = l[i + k]?) →
    Wk (stOf st l n xs (ltB i)) s' → Wk (stOf st l n xs (ltB n)) (outP xs os i s')
  | [], i, s', hl, _, hw => by
    have : i = n := by simpa using hl
    subst this; exact hw
  | o :: os, i, s', hl, hos, hw => by
    have ho : l[i]? = some o := by have := hos 0 (by simp); simpa using this.symm
    have hi : i < n := by simp at hl; omega
    refine out_wk h os (i + 1) _ (by simp at hl; omega) (fun k hk => by have := hos (k + 1) (by simpa using hk); simpa [Nat.add_assoc, Nat.add_comm 1 k] using this) ?_
    rw [← setL_ltB, stOf_set h hi ho (by simp [ltB])]
    refine hw.put ?_
    unfold outX
    cases hg : o.guard with
    | none => rw [guards_none ho hg, if_pos (show GH xs [] from trivial)]; exact .inl rfl
    | some _ => exact .inr rfl
theorem stOf_all {st : St} {l : List Oper} {n : Nat} {xs : Nat → T} {L : Nat → Bool} (hL : ∀ p, p < n → L p = true) : stOf st l n xs L = stOf st l n xs (ltB n) := by
  simp only [stOf, St.mk.injEq, true_and, and_true]
  funext t
  cases hp : prodIdx l n t with
  | none => rfl
  | some p =>
    have hpn := (prodIdx_spec hp).1
    simp only [hL p hpn, ltB, hpn, decide_true]
theorem stOf_none {st : St} {l : List Oper} {n : Nat} {xs : Nat → T} {L : Nat → Bool} (hL : ∀ p, p < n → L p = false) : stOf st l n xs L = st := by
  cases st
  simp only [stOf, St.mk.injEq, true_and, and_true]
  funext t
  cases hp : prodIdx l n t with
  | none => rfl
  | some p => simp [hL p (prodIdx_spec hp).1]

theorem wpAnyIn_of_seqF {F : Fence} {fn : Nat} {md : Region.Mode} {ops : Array Oper} {Q' : Exit → Act → World → Prop} : ∀ (l : List Oper) (k : Nat) (listed : Array Bool) (a : Act) (w : World), (∀ j, l[j]? = ops[k + j]?) →
    Region.seqB md ops l.length k listed = true → wpListIn F fn P ops Q' l a w → wpAnyIn F fn P md ops Q' l.length listed a w
  | [], _, _, _, _, _, hB, h => ⟨by simpa [Region.seqB] using hB, h⟩
  | o :: l, k, listed, a, w, hl, hB, h => by
    have h0 : ops[k]? = some o := by simpa using (hl 0).symm
    simp only [List.length_cons, Region.seqB, Bool.and_eq_true, decide_eq_true_eq] at hB
    refine ⟨fun h1 => (by rw [hB.1] at h1; cases h1), fun i hi => ?_⟩
    rw [hB.1] at hi
    have hik : i = k := by simpa using hi
    subst hik
    have hw : wpOpIn F fn P ops Q' i (wpListIn F fn P ops Q' l) a w := by unfold wpOpIn; simp only [h0]; exact h
    exact wpOpIn_mono (fun a' w' h' => wpAnyIn_of_seqF l (i + 1) _ a' w' (fun j => by have := hl (j + 1); simpa [Nat.add_assoc, Nat.add_comm 1 j] using this) hB.2 h') hw

def Aops (P : Program) (w0 : Cx) (ops : List Oper) (rest : List Oper) (R : Exit → St → Prop) (st : St) : Prop := ∀ (F : Fence) (m : Nat), FAt w0 F → ∀ a w, Holds w0 st a w → wpListIn F m P ops.toArray (Post w0 R) rest a w

theorem seq_pre {F : Fence} {m : Nat} (hF : FAt w0 F) {st : St} {l : List Oper} {n : Nat} {xs : Nat → T} {Q : Exit → Act → World → Prop} (h : regB l n st.n = true) (hn : n ≤ l.length) (hO : ∀ k o, k < n → l[k]? = some o → Owes P w0 st l n xs k o)
    (hT : ∀ a w, Holds w0 (stOf st l n xs (ltB n)) a w → wpListIn F m P l.toArray Q (l.drop n) a w) :
    ∀ (d i : Nat), n - i = d → i ≤ n → ∀ a w, Holds w0 (stOf st l n xs (ltB i)) a w → wpListIn F m P l.toArray Q (l.drop i) a w := by
  intro d
  induction d with
  | zero => intro i hd hi a w hH; have : i = n := by omega
            subst this; exact hT a w hH
  | succ d ih =>
    intro i hd hi a w hH
    have hil : i < l.length := by omega
    rw [List.drop_eq_getElem_cons hil]
    have ho : l[i]? = some l[i] := List.getElem?_eq_getElem hil
    have hin : i < n := by omega
    have step := reg_step (L := ltB i) h hin ho ⟨fun p o hp hop hL e he hb => by
        have := reg_before h hp hop e he hb
        simp only [ltB, decide_eq_true_eq] at hL ⊢; omega⟩ (by simp [ltB]) (fun e he hb => by have := reg_before h hin ho e he hb; simpa [ltB] using this) hH (hO i _ hin ho)
    rw [setL_ltB] at step
    unfold wpListIn
    rcases step with ⟨h1, h2⟩ | ⟨h1, h2⟩
    · rw [if_pos h1]
      exact h2.to hF fun a' w' h' => ih (i + 1) (by omega) (by omega) a' w' h'
    · rw [if_neg (by simp [h1])]
      exact ⟨fun f _ => hF.fn f, ih (i + 1) (by omega) (by omega) _ _ h2⟩

def cntU (listed : Array Bool) : Nat → Nat
  | 0 => 0
  | k + 1 => cntU listed k + (if listed.getD k false = true then 0 else 1)
theorem cntU_zero {listed : Array Bool} : ∀ {k : Nat}, cntU listed k = 0 → ∀ j, j < k → listed.getD j false = true
  | 0, _, j, hj => by omega
  | k + 1, h, j, hj => by
    simp only [cntU] at h
    by_cases hk : listed.getD k false = true
    · rcases Nat.lt_or_ge j k with h' | h'
      · exact cntU_zero (by omega) j h'
      · have : j = k := by omega
        subst this; exact hk
    · rw [if_neg hk] at h; omega
theorem cntU_some {listed : Array Bool} : ∀ {k : Nat}, 0 < cntU listed k → ∃ j, j < k ∧ listed.getD j false = false ∧ ∀ p, p < j → listed.getD p false = true
  | 0, h => by simp [cntU] at h
  | k + 1, h => by
    by_cases h0 : 0 < cntU listed k
    · obtain ⟨j, h1, h2⟩ := cntU_some h0; exact ⟨j, by omega, h2⟩
    · refine ⟨k, by omega, ?_, cntU_zero (by omega)⟩
      simp only [cntU] at h
      by_cases hk : listed.getD k false = true
      · rw [if_pos hk] at h; omega
      · simpa using hk
theorem cntU_set {listed : Array Bool} {i : Nat} (hi : listed.getD i false = false) (his : i < listed.size) : ∀ {k : Nat}, (i < k → cntU (listed.setIfInBounds i true) k + 1 = cntU listed k) ∧ (k ≤ i → cntU (listed.setIfInBounds i true) k = cntU listed k)
  | 0 => ⟨fun h => by omega, fun _ => rfl⟩
  | k + 1 => by
    obtain ⟨h1, h2⟩ := cntU_set hi his (k := k)
    have hne : k ≠ i → (listed.setIfInBounds i true).getD k false = listed.getD k false := fun h => getD_set_ne false (Ne.symm h)
    refine ⟨fun h => ?_, fun h => ?_⟩
    · simp only [cntU]
      by_cases hk : k = i
      · subst hk
        rw [h2 (Nat.le_refl _), hi]
        have : (listed.setIfInBounds k true).getD k false = true := by simp [his]
        rw [this]; simp
      · rw [hne hk]; have := h1 (by omega); omega
    · simp only [cntU]
      rw [hne (by omega), h2 (by omega)]
theorem cntU_none {m : Nat} : ∀ {k : Nat}, cntU (Array.replicate m false) k = k
  | 0 => rfl
  | k + 1 => by simp only [cntU, cntU_none, getD_replicate_false]; simp
def preArr (n m : Nat) : Array Bool := ((List.range m).map fun j => decide (j < n)).toArray
def tailOk (l : List Oper) (n : Nat) : Bool :=
  (decide (n = l.length) || Region.sinkB .any l.toArray n && Region.chainB .any l.toArray n) && Region.seqB .any l.toArray (l.length - n) n (preArr n l.length)

theorem any_pre {F : Fence} {m : Nat} (hF : FAt w0 F) {st : St} {l : List Oper} {n : Nat} {xs : Nat → T} {Q : Exit → Act → World → Prop} (h : regB l n st.n = true) (hn : n ≤ l.length) (hB : tailOk l n = true)
    (hO : ∀ k o, k < n → l[k]? = some o → Owes P w0 st l n xs k o)
    (hT : ∀ a w, Holds w0 (stOf st l n xs (ltB n)) a w → wpListIn F m P l.toArray Q (l.drop n) a w) :
    ∀ (f : Nat) (listed : Array Bool) (a : Act) (w : World), HeadInv .any l.toArray n listed → cntU listed n = f → Holds w0 (stOf st l n xs (listed.getD · false)) a w →
      wpAnyIn F m P .any l.toArray Q (f + (l.length - n)) listed a w := by
  simp only [tailOk, Bool.and_eq_true, Bool.or_eq_true, decide_eq_true_eq] at hB
  intro f
  induction f with
  | zero =>
    intro listed a w inv hc hH
    have hall := cntU_zero hc
    have hle : listed = preArr n l.length := by
      apply Array.ext
      · simp [inv.size, preArr]
      · intro j h1 h2
        have hjl : j < l.length := by simpa [preArr] using h2
        simp only [preArr, List.getElem_toArray, List.getElem_map, List.getElem_range]
        by_cases hj : j < n
        · have := hall j hj
          simp [h1] at this
          simp [this, hj]
        · have := inv.tail j (by omega) (by simpa using hjl)
          simp [h1] at this
          simp [this, hj]
    have hdl : (l.drop n).length = l.length - n := by simp
    have := wpAnyIn_of_seqF (md := .any) (Q' := Q) (P := P) (ops := l.toArray) (l.drop n) n listed a w (fun j => by simp [List.getElem?_drop]) (by rw [hdl, hle]; exact hB.2) (hT a w (by rw [← stOf_all (L := (listed.getD · false)) hall]; exact hH))
    rw [hdl] at this
    rwa [Nat.zero_add]
  | succ f ih =>
    intro listed a w inv hc hH
    rw [show f + 1 + (l.length - n) = (f + (l.length - n)) + 1 by omega]
    obtain ⟨j, hj, hju, hjall⟩ := cntU_some (listed := listed) (k := n) (by omega)
    have hjl : j < l.length := by omega
    have hjr : j ∈ Region.ready .any l.toArray listed := mem_ready.2 ⟨getD_in (by rw [inv.size]; simpa using hjl) hju, l[j], by simp [hjl], fun e he hb => hjall e.on (reg_before h hj (List.getElem?_eq_getElem hjl) e he hb)⟩
    refine ⟨fun h0 => (by rw [h0] at hjr; cases hjr), fun i hi => ?_⟩
    obtain ⟨hiu, o, hio, hia⟩ := mem_ready.1 hi
    have ho : l[i]? = some o := by simpa using hio
    have hil : i < l.length := (List.getElem?_eq_some_iff.1 ho).1
    have hin : i < n := by
      rcases Nat.lt_or_ge i n with h' | h'
      · exact h'
      · rcases hB.1 with e | ⟨hs, hc'⟩
        · omega
        · exact absurd hi (tail_waits hs hc' (by simpa using Nat.lt_of_le_of_lt h' hil) inv _ j rfl hj (getD_in (by rw [inv.size]; simpa using hjl) hju) i h')
    have hiu' : listed.getD i false = false := getD_both hiu
    have his : i < listed.size := by rw [inv.size]; simpa using hil
    have hset : (fun j => (listed.setIfInBounds i true).getD j false) = setL (listed.getD · false) i := by
      funext k
      by_cases hk : k = i
      · subst hk; simp [setL, his]
      · rw [getD_set_ne false (Ne.symm hk)]; simp [setL, hk]
    have step := reg_step (L := (listed.getD · false)) h hin ho ⟨fun p op hp hop hL e he hb => inv.closed p op (by simpa using hop) hL e he hb⟩ hiu' hia hH (hO i o hin ho)
    rw [← hset] at step
    have next : ∀ a' w', Holds w0 (stOf st l n xs ((listed.setIfInBounds i true).getD · false)) a' w' → wpAnyIn F m P .any l.toArray Q (f + (l.length - n)) (listed.setIfInBounds i true) a' w' :=
      fun a' w' hH' => ih _ a' w' (inv.set hi hin) (by have := (cntU_set hiu' his (k := n)).1 hin; omega) hH'
    unfold wpOpIn
    simp only [hio]
    rcases step with ⟨h1, h2⟩ | ⟨h1, h2⟩
    · rw [if_pos h1]; exact h2.to hF next
    · rw [if_neg (by simp [h1])]; exact ⟨fun f _ => hF.fn f, next _ _ h2⟩

theorem Holds.drew {st : St} {a : Act} {w : World} (h : Holds w0 st a w) : Holds w0 st a { w with drawn := w.drawn + 1 } := by
  obtain ⟨blk, val, hh⟩ := h
  exact ⟨blk, val, hh.ext' ((Ext.refl w).drew)⟩

theorem awp_region {st : St} {l : List Oper} {id : Nat} {draw : Bool} {R : Exit → St → Prop} (n : Nat) (hm : P.follows .mixedOrders = true) (h : (regB l n st.n && decide (n ≤ l.length) && (!draw || tailOk l n)) = true)
    (hW : RegW P w0 st l n (l.take n) 0 (fun _ => .dead) st (fun st' => Aops P w0 l (l.drop n) R st')) : Awp P w0 (.region id l.toArray draw) R st := by
  simp only [Bool.and_eq_true, decide_eq_true_eq, Bool.or_eq_true, Bool.not_eq_true'] at h
  obtain ⟨⟨h, hn⟩, hd⟩ := h
  have htl : (l.take n).length = n := by simp; omega
  have hto : ∀ k, k < (l.take n).length → (l.take n)[k]? = l[0 + k]? := fun k hk => by rw [htl] at hk; simp [hk]
  obtain ⟨xs, _, hO, hK⟩ := regw_xs h (l.take n) 0 _ _ (by omega) hto hW
  intro F m hF
  have hT : ∀ a w, Holds w0 (stOf st l n xs (ltB n)) a w → wpListIn F m P l.toArray (Post w0 R) (l.drop n) a w := fun a w hH =>
    hK F m hF a w (hH.weak (out_wk h (l.take n) 0 st (by omega) hto (by rw [stOf_none (fun p _ => by simp [ltB])]; exact ⟨rfl, rfl, fun _ => .inl rfl⟩)))
  intro a w hH
  cases draw with
  | false =>
    refine wpIn_region_lit ?_
    have := seq_pre (m := m) hF h hn (fun k o hk ho => hO k o (Nat.zero_le _) hk ho) hT n 0 rfl (Nat.zero_le _) a w (by rw [stOf_none (fun p _ => by simp [ltB])]; exact hH)
    simpa using this
  | true =>
    have hB : tailOk l n = true := hd.resolve_left (by simp)
    refine wpIn_region_any hm ?_
    have inv0 : HeadInv .any l.toArray n (Array.replicate l.toArray.size false) :=
      ⟨by simp, fun j oj _ hl => (by rw [getD_replicate_false] at hl; cases hl), fun t _ ht => getD_in (by simpa using ht) (getD_replicate_false _ _)⟩
    have := any_pre (m := m) hF h hn hB (fun k o hk ho => hO k o (Nat.zero_le _) hk ho) hT n _ a { w with drawn := w.drawn + 1 } inv0 cntU_none (by rw [stOf_none (fun p _ => getD_replicate_false _ _)]; exact hH.drew)
    rw [show n + (l.length - n) = l.toArray.size by simp; omega] at this
    exact this
end
open Go

section
variable {P : Program} {w0 : Cx} {n : Nat} {s : Nat → Site} {ev : Operand → T} {dst : Option Tmp} {ty : TypeId} {pos : String} {after : Array Edge} {g : Option (Nat × Bool)}

theorem QOp.core {st : St} {a : Act} {w : World} {blk : Nat → Option Nat} {val : Nat → Value} (hh : Hold w0 st a w blk val) (hs : Sub s ev st.s) (hev : ∀ y, ev y = .dead ∨ st.ev y = ev y) :
    ∃ blk' : Nat → Option Nat, (∀ y, RepT w (okOf w0 blk) blk' val s (ev y) (a.eval y)) ∧ (∀ k, SiteIn w (okOf w0 blk) blk' val s (blk' k) (val k) (s k)) ∧ ∀ (w' : World) (ok : Nat → Prop) (x : T) (v : Value), RepT w' ok blk' val s x v → RepT w' ok blk val st.s x v := by
  let blk' : Nat → Option Nat := fun k => match s k with | .no => none | _ => blk k
  have hb : ∀ k, s k ≠ .no → blk' k = blk k := fun k hk => by
    cases hq : s k <;> first | exact absurd hq hk | simp only [blk', hq]
  have hb0 : ∀ k, s k = .no → blk' k = none := fun k hk => by simp only [blk', hk]
  have hrel : ∀ k, s k ≠ .no → st.s k = s k := fun k hk => (hs.at_ k).resolve_right fun h => hk h.1
  have hn : ∀ k, st.s k = .no → blk k = none := fun k hk => by have := hh.site k; rw [hk] at this; exact this
  have heq : ∀ k, st.s k = s k → blk' k = blk k ∧ val k = val k ∧ (st.s k ≠ .no → s k ≠ .no) ∧ ((∃ e sz es, st.s k = .row e sz es) → ∃ e sz es, s k = .row e sz es) := fun k e => by
    refine ⟨?_, rfl, by rw [e]; exact id, by rw [e]; exact id⟩
    cases hq : s k with
    | no => rw [hb0 k hq, hn k (e.trans hq)]
    | _ => exact hb k (by rw [hq]; simp)
  refine ⟨blk', fun y => ?_, fun k => ?_, fun w' ok x v h => ?_⟩
  · rcases hev y with e | e
    · rw [e]; trivial
    · have h := hh.ev y
      rw [e] at h
      exact h.to (fun _ _ h => h) fun k hk => heq k ((hs.at_ k).resolve_right fun q => q.2 y hk)
  · cases hq : s k with
    | no => exact hb0 k hq
    | _ =>
      have e := hrel k (by rw [hq]; simp)
      have h := hh.site k
      rw [e, hq] at h
      rw [hb k (by rw [hq]; simp)]
      exact h.to (fun _ _ h => h) (.inl rfl) fun cs hcs y hy j hj => heq j (hs.tb k cs (hq.trans hcs) y hy j hj)
  · refine h.to (fun _ _ h => h) fun k hk => ?_
    have hl : s k ≠ .no := by
      rcases hk with rfl | ⟨o, rfl⟩ | ⟨_, _, _, rfl⟩
      · obtain ⟨⟨e, sz, es, q⟩, _⟩ := h; rw [q]; simp
      · exact h.1
      · exact h.1.1.1
    have e := hrel k hl
    exact ⟨(hb k hl).symm, rfl, by rw [e]; exact id, by rw [e]; exact id⟩
theorem QOp.mk {o : Oper} {x : T} (h : ∀ (a : Act) (w : World) (ok : Nat → Prop) (blk : Nat → Option Nat) (val : Nat → Value), (∀ y, RepT w ok blk val s (ev y) (a.eval y)) → (∀ k, SiteIn w ok blk val s (blk k) (val k) (s k)) →
    (∀ b, w.heap.size ≤ b → ok b) → ∃ v w', (execOp a.eval o).run P w = .ok (.value v) w' ∧ Ext w w' ∧ RepT w' ok blk val s x v) : QOp P w0 n s ev o x := by
  intro st a w ⟨blk, val, hh⟩ hs hn hev hd
  obtain ⟨blk', h1, h2, h3⟩ := QOp.core hh hs hev
  obtain ⟨v, w', h1, hE, h2⟩ := h a w (okOf w0 blk) blk' val h1 h2 (fun b hb => ⟨.inr (Nat.le_trans hh.ext.size hb), fun k hk => by have := (hh.new k b hk).2; omega⟩)
  exact wp_value h1 ⟨blk, val, (hh.ext' hE).put o.dst x v (fun d h => by rw [hn]; exact hd d h) (h3 _ _ _ _ h2)⟩

theorem RepT.v_eq {w : World} {ok : Nat → Prop} {blk : Nat → Option Nat} {val : Nat → Value} {x v : Value} (h : RepT w ok blk val s (.d (.v x)) v) : v = x := Rep.v_eq h

theorem q_move {y : Operand} {x : T} (h : ev y = x) : QOp P w0 n s ev ⟨dst, .move y, ty, pos, after, g⟩ x :=
  .mk fun a w ok blk val hy _ hnew => ⟨a.eval y, w, rfl, Ext.refl w, h ▸ hy y⟩
theorem q_assign {y : Operand} {x : T} (h : ev y = x) : QOp P w0 n s ev ⟨dst, .assign y, ty, pos, after, g⟩ x :=
  .mk fun a w ok blk val hy _ hnew => ⟨a.eval y, w, rfl, Ext.refl w, h ▸ hy y⟩
theorem q_bin {op : BinOp} {t t' : TypeId} {x y : Operand} {u v r : Value} (hx : ev x = .d (.v u)) (hy : ev y = .d (.v v)) (hr : ∀ w, (do eqGuard op t x y u v; binOp op t u v : Sem Value).run P w = .ok r w) (h1 : r.oneCell' = true) :
    QOp P w0 n s ev ⟨dst, .binOp op t x y t', ty, pos, after, g⟩ (.d (.v r)) :=
  .mk fun a w ok blk val h _ hnew => by
    have e1 : a.eval x = u := RepT.v_eq (hx ▸ h x)
    have e2 : a.eval y = v := RepT.v_eq (hy ▸ h y)
    refine ⟨r, w, ?_, Ext.refl w, Rep.v _ h1⟩
    have := hr w
    simp only [execOp, e1, e2, Sem.run_bind] at this ⊢
    rw [this]; rfl
abbrev T.i (n : Int) : T := .d (.v (.int .i64 n))
theorem q_addw {t t' : TypeId} {x y : Operand} {k : IntKind} {a b : Int} (hx : ev x = .d (.v (.int k a))) (hy : ev y = .d (.v (.int k b))) : QOp P w0 n s ev ⟨dst, .binOp .add t x y t', ty, pos, after, g⟩ (.d (.v (.int k (k.wrap (a + b))))) :=
  q_bin hx hy (fun w => by simp [eqGuard, binOp, Op.intArith]) rfl
theorem q_subw {t t' : TypeId} {x y : Operand} {k : IntKind} {a b : Int} (hx : ev x = .d (.v (.int k a))) (hy : ev y = .d (.v (.int k b))) : QOp P w0 n s ev ⟨dst, .binOp .sub t x y t', ty, pos, after, g⟩ (.d (.v (.int k (k.wrap (a - b))))) :=
  q_bin hx hy (fun w => by simp [eqGuard, binOp, Op.intArith]) rfl
theorem q_mulw {t t' : TypeId} {x y : Operand} {k : IntKind} {a b : Int} (hx : ev x = .d (.v (.int k a))) (hy : ev y = .d (.v (.int k b))) : QOp P w0 n s ev ⟨dst, .binOp .mul t x y t', ty, pos, after, g⟩ (.d (.v (.int k (k.wrap (a * b))))) :=
  q_bin hx hy (fun w => by simp [eqGuard, binOp, Op.intArith]) rfl
def In64 (n : Int) : Prop := -9223372036854775808 ≤ n ∧ n ≤ 9223372036854775807
theorem q_add {t t' : TypeId} {x y : Operand} {a b : Int} (hx : ev x = T.i a) (hy : ev y = T.i b) (h : In64 (a + b)) : QOp P w0 n s ev ⟨dst, .binOp .add t x y t', ty, pos, after, g⟩ (T.i (a + b)) := by
  have := q_addw (P := P) (w0 := w0) (n := n) (s := s) (dst := dst) (ty := ty) (pos := pos) (after := after) (g := g) (t := t) (t' := t') hx hy
  rwa [IntWalk.i64_in _ h] at this
theorem q_sub {t t' : TypeId} {x y : Operand} {a b : Int} (hx : ev x = T.i a) (hy : ev y = T.i b) (h : In64 (a - b)) : QOp P w0 n s ev ⟨dst, .binOp .sub t x y t', ty, pos, after, g⟩ (T.i (a - b)) := by
  have := q_subw (P := P) (w0 := w0) (n := n) (s := s) (dst := dst) (ty := ty) (pos := pos) (after := after) (g := g) (t := t) (t' := t') hx hy
  rwa [IntWalk.i64_in _ h] at this
theorem q_mul {t t' : TypeId} {x y : Operand} {a b : Int} (hx : ev x = T.i a) (hy : ev y = T.i b) (h : In64 (a * b)) : QOp P w0 n s ev ⟨dst, .binOp .mul t x y t', ty, pos, after, g⟩ (T.i (a * b)) := by
  have := q_mulw (P := P) (w0 := w0) (n := n) (s := s) (dst := dst) (ty := ty) (pos := pos) (after := after) (g := g) (t := t) (t' := t') hx hy
  rwa [IntWalk.i64_in _ h] at this
section
variable {t t' : TypeId} {x y : Operand} {k : IntKind} {a b : Int} (hx : ev x = .d (.v (.int k a))) (hy : ev y = .d (.v (.int k b)))
include hx hy
theorem q_lss : QOp P w0 n s ev ⟨dst, .binOp .lss t x y t', ty, pos, after, g⟩ (T.bool (decide (a < b))) := q_bin hx hy (fun w => by simp [eqGuard, binOp, Op.intCmp]) rfl
theorem q_leq : QOp P w0 n s ev ⟨dst, .binOp .leq t x y t', ty, pos, after, g⟩ (T.bool (decide (a ≤ b))) := q_bin hx hy (fun w => by simp [eqGuard, binOp, Op.intCmp]) rfl
theorem q_gtr : QOp P w0 n s ev ⟨dst, .binOp .gtr t x y t', ty, pos, after, g⟩ (T.bool (decide (b < a))) := q_bin hx hy (fun w => by simp [eqGuard, binOp, Op.intCmp]) rfl
theorem q_geq : QOp P w0 n s ev ⟨dst, .binOp .geq t x y t', ty, pos, after, g⟩ (T.bool (decide (b ≤ a))) := q_bin hx hy (fun w => by simp [eqGuard, binOp, Op.intCmp]) rfl
theorem q_eql : QOp P w0 n s ev ⟨dst, .binOp .eql t x y t', ty, pos, after, g⟩ (T.bool (decide (a = b))) := q_bin hx hy (fun w => by
  have : (a == b) = decide (a = b) := by rw [Bool.eq_iff_iff]; simp
  simp [eqGuard, binOp, Op.intCmp, this]) rfl
theorem q_neq : QOp P w0 n s ev ⟨dst, .binOp .neq t x y t', ty, pos, after, g⟩ (T.bool (decide (a ≠ b))) := q_bin hx hy (fun w => by
  have : (a != b) = decide (a ≠ b) := by rw [Bool.eq_iff_iff]; simp
  simp [eqGuard, binOp, Op.intCmp, this]) rfl
end
theorem ba_beq (x y : ByteArray) : (x.toList == y.toList) = decide (x = y) := by
  rw [Bool.eq_iff_iff]
  simp only [beq_iff_eq, decide_eq_true_eq]
  constructor
  · intro h
    have h2 : x.data.toList = y.data.toList := by rw [← ByteArray.toList_eq, ← ByteArray.toList_eq]; exact h
    cases x; cases y
    simp only [ByteArray.mk.injEq]
    exact Array.toList_inj.1 h2
  · intro h; rw [h]
theorem q_neqs {t t' : TypeId} {x y : Operand} {a b : ByteArray} (hx : ev x = .d (.v (.string a))) (hy : ev y = .d (.v (.string b))) : QOp P w0 n s ev ⟨dst, .binOp .neq t x y t', ty, pos, after, g⟩ (T.bool (decide (a ≠ b))) :=
  q_bin hx hy (fun w => by simp [eqGuard, binOp, Op.stringOp, ba_beq]) rfl

theorem q_un {op : UnOp} {t : TypeId} {x : Operand} {u r : Value} (hx : ev x = .d (.v u)) (hr : ∀ w, (Op.unary op u).run P w = .ok r w) (h1 : r.oneCell' = true) :
    QOp P w0 n s ev ⟨dst, .unOp op t x, ty, pos, after, g⟩ (.d (.v r)) :=
  .mk fun a w ok blk val h _ hnew => by
    have e1 : a.eval x = u := RepT.v_eq (hx ▸ h x)
    refine ⟨r, w, ?_, Ext.refl w, Rep.v _ h1⟩
    simp only [execOp, e1, Sem.run_bind, hr w]; rfl
theorem q_not {t : TypeId} {x : Operand} {b : Bool} (hx : ev x = T.bool b) : QOp P w0 n s ev ⟨dst, .unOp .not t x, ty, pos, after, g⟩ (T.bool (!b)) := q_un hx (fun w => rfl) rfl
theorem my_typeInfo {t : TypeId} {i : TypeInfo} (h : P.info? t = some i) (w : World) : (typeInfo t).run P w = .ok i w := by
  simp [typeInfo, h]
/- what the walk asks of types -/
def szB (P : Program) (t : TypeId) (agg : Bool) (m : Nat) : Bool :=
  (match P.underlying t with | some (.struct _) | some (.array _ _) => agg | some _ => !agg | none => false) && (match P.info? t with | some i => i.size == m | none => false)
theorem szB_agg {t : TypeId} {agg : Bool} {m : Nat} (h : szB P t agg m = true) (w : World) : (isAgg t).run P w = .ok agg w := by
  simp only [szB, Bool.and_eq_true] at h
  cases hu : P.underlying t with
  | none => simp [hu] at h
  | some d => cases d <;> simp [hu] at h <;> simp [isAgg, run_underlying hu, h.1]
theorem szB_size {t : TypeId} {agg : Bool} {m : Nat} (h : szB P t agg m = true) (w : World) : (sizeOf t).run P w = .ok m w := by
  simp only [szB, Bool.and_eq_true] at h
  cases hu : P.info? t with
  | none => simp [hu] at h
  | some d => simp [hu] at h; simp [sizeOf, typeInfo, hu, h.2]
theorem addr_add (b o k : Nat) : (⟨b, o, none⟩ : Addr).add k = ⟨b, o + k, none⟩ := by
  unfold Addr.add; split
  · subst_vars; rfl
  · rfl

theorem pt_inv {w : World} {ok : Nat → Prop} {cs : List D} {o : Nat} {v : Value} (h : Rep w ok (.pt cs o) v) : ∃ (b off : Nat) (vs : Nat → Value), v = .pointer (some ⟨b, off + o, none⟩) ∧ b < w.heap.size ∧ ok b ∧ (∀ (j : Nat) (d : D), cs[j]? = some d → d.sc = true) ∧
    (∀ (j : Nat) (d : D), cs[j]? = some d → w.cell? ⟨b, off + j, none⟩ = some (vs j)) ∧ ∀ (j : Nat) (d : D), cs[j]? = some d → Rep w ok d (vs j) := by
  generalize hd : D.pt cs o = x at h
  cases h with
  | pt cs o b off vs hb hok hs hc hr =>
  cases hd
  exact ⟨b, off, vs, rfl, hb, hok, hs, hc, hr⟩
  | _ => cases hd
theorem sl_inv {w : World} {ok : Nat → Prop} {sz : Nat} {es : List (List D)} {v : Value} (h : Rep w ok (.sl sz es) v) : ∃ A cap, v = .slice A es.length cap ∧ es.length ≤ cap ∧ cap ≤ maxLen ∧ (∀ (i : Nat) (e : List D), es[i]? = some e → e.length = sz) ∧ (∀ (i : Nat) (e : List D) (j : Nat) (d : D), es[i]? = some e → e[j]? = some d → d.sc = true) ∧
    (es = [] ∨ ∃ (b off : Nat) (vs : Nat → Nat → Value), A = some ⟨b, off, none⟩ ∧ b < w.heap.size ∧ ok b ∧
    (∀ (i : Nat) (e : List D) (j : Nat) (d : D), es[i]? = some e → e[j]? = some d → w.cell? ⟨b, off + i * sz + j, none⟩ = some (vs i j)) ∧ ∀ (i : Nat) (e : List D) (j : Nat) (d : D), es[i]? = some e → e[j]? = some d → Rep w ok d (vs i j)) := by
  generalize hd : D.sl sz es = x at h
  cases h with
  | emp sz A cap h =>
    cases hd
    exact ⟨A, cap, rfl, Nat.zero_le _, h, fun i e h => by simp at h, fun i e j d h => by simp at h, .inl rfl⟩
  | sl sz es b off cap vs hb hok hn hcap hsz hs hc hr =>
    cases hd
    exact ⟨some ⟨b, off, none⟩, cap, rfl, hn, hcap, hsz, hs, .inr ⟨b, off, vs, rfl, hb, hok, hc, hr⟩⟩
  | _ => cases hd

theorem q_load {t : TypeId} {y : Operand} {m : Nat} {cs : List D} {o : Nat} {d : D} (ht : szB P t false m = true) (hy : ev y = .d (.pt cs o)) (hd : cs[o]? = some d) : QOp P w0 n s ev ⟨dst, .load t y, ty, pos, after, g⟩ (.d d) :=
  .mk fun a w ok blk val h _ hnew => by
    obtain ⟨b, off, vs, hv, _, _, hs, hc, hr⟩ := pt_inv (show Rep w _ (.pt cs o) (a.eval y) by have := h y; rw [hy] at this; exact this)
    refine ⟨vs o, w, ?_, Ext.refl w, hr o d hd⟩
    simp [execOp, hv, Instr.loadAt, Instr.sureAddr, loadVar, szB_agg ht, hc o d hd]
theorem q_loadA {t : TypeId} {y : Operand} {m : Nat} {cs ds : List D} {o : Nat} (ht : szB P t true m = true) (hy : ev y = .d (.pt cs o)) (hd : (cs.drop o).take m = ds) (hl : ds.length = m) : QOp P w0 n s ev ⟨dst, .load t y, ty, pos, after, g⟩ (.d (.agg ds)) :=
  .mk fun a w ok blk val h _ hnew => by
    obtain ⟨b, off, vs, hv, _, _, hs, hc, hr⟩ := pt_inv (show Rep w _ (.pt cs o) (a.eval y) by have := h y; rw [hy] at this; exact this)
    subst hd
    have hget : ∀ (j : Nat) (d : D), ((cs.drop o).take m)[j]? = some d → cs[o + j]? = some d := fun j d hj => by
      rw [List.getElem?_take] at hj
      split at hj
      · simpa [List.getElem?_drop] using hj
      · cases hj
    have hj : ∀ j, j < m → ∃ d, ((cs.drop o).take m)[j]? = some d := fun j hj => ⟨_, List.getElem?_eq_getElem (by omega)⟩
    have hrun := run_loadCells (P := P) w ⟨b, off + o, none⟩ m (fun j => vs (o + j)) (fun j hjm => by
      obtain ⟨d, hd⟩ := hj j hjm
      rw [addr_add, Nat.add_assoc]; exact hc _ d (hget j d hd))
    refine ⟨.agg ((List.range m).map fun j => vs (o + j)).toArray, w, ?_, Ext.refl w, ?_⟩
    · simp [execOp, hv, Instr.loadAt, Instr.sureAddr, loadVar, szB_agg ht, szB_size ht, hrun]
    · refine Rep.agg _ _ (by simpa using hl.symm) (fun j d hd => hs _ d (hget j d hd)) fun j d v hd hv => ?_
      have hjm : j < m := by have := (List.getElem?_eq_some_iff.1 hv).1; simpa using this
      simp [hjm] at hv
      subst hv
      exact hr _ d (hget j d hd)

def fldB (P : Program) (t : TypeId) (f off : Nat) : Bool :=
  match P.underlying t with
  | some (.struct fs) => match fs[f]? with
    | some fd => fd.offset == off && (match P.info? fd.type with | some i => i.size != 0 | none => false)
    | none => false
  | _ => false
theorem run_fieldAt {t : TypeId} {f off b o : Nat} (h : fldB P t f off = true) (w : World) : (Instr.fieldAt t (.pointer (some ⟨b, o, none⟩)) f).run P w = .ok (.pointer (some ⟨b, o + off, none⟩)) w := by
  unfold fldB at h
  cases hu : P.underlying t with
  | none => simp [hu] at h
  | some d =>
    cases d <;> simp only [hu, Bool.false_eq_true] at h
    rename_i fs
    cases hf : fs[f]? with
    | none => simp [hf] at h
    | some fd =>
      simp only [hf, Bool.and_eq_true, beq_iff_eq] at h
      cases hi : P.info? fd.type with
      | none => simp [hi] at h
      | some i =>
        simp only [hi, bne_iff_ne, ne_eq] at h
        simp [Instr.fieldAt, run_underlying hu, hf, Instr.sureAddr, fieldPlace, sizeOf, my_typeInfo hi, h.2, h.1, addr_add]
theorem q_fieldAddr {t : TypeId} {y : Operand} {f off o : Nat} {cs : List D} (ht : fldB P t f off = true) (hy : ev y = .d (.pt cs o)) : QOp P w0 n s ev ⟨dst, .fieldAddr t y f, ty, pos, after, g⟩ (.d (.pt cs (o + off))) :=
  .mk fun a w ok blk val h _ hnew => by
    obtain ⟨b, of, vs, hv, hb, hok, hs, hc, hr⟩ := pt_inv (show Rep w _ (.pt cs o) (a.eval y) by have := h y; rw [hy] at this; exact this)
    refine ⟨.pointer (some ⟨b, of + (o + off), none⟩), w, ?_, Ext.refl w, Rep.pt cs _ b of vs hb hok hs hc hr⟩
    simp [execOp, hv, run_fieldAt ht, Nat.add_assoc]
theorem q_fieldAddr_ref {t : TypeId} {y : Operand} {f off o k : Nat} (ht : fldB P t f off = true) (hy : ev y = .ref k o) : QOp P w0 n s ev ⟨dst, .fieldAddr t y f, ty, pos, after, g⟩ (.ref k (o + off)) :=
  .mk fun a w ok blk val h _ hnew => by
    have := h y
    rw [hy] at this
    obtain ⟨hk, b, hb, hv⟩ := this
    refine ⟨.pointer (some ⟨b, o + off, none⟩), w, ?_, Ext.refl w, ⟨hk, b, hb, rfl⟩⟩
    simp [execOp, hv, run_fieldAt ht]

def slB (P : Program) (t e sz : Nat) : Bool := (match P.underlying t with | some (.slice e') => e' == e | _ => false) && (match P.info? e with | some i => i.size == sz | none => false)
theorem slB_under {t e sz : Nat} (h : slB P t e sz = true) : P.underlying t = some (.slice e) := by
  simp only [slB, Bool.and_eq_true] at h
  cases hu : P.underlying t with
  | none => simp [hu] at h
  | some d => cases d <;> simp [hu] at h <;> rw [h.1]
theorem slB_info {t e sz : Nat} (h : slB P t e sz = true) : ∃ i, P.info? e = some i ∧ i.size = sz := by
  simp only [slB, Bool.and_eq_true] at h
  cases hu : P.info? e with
  | none => simp [hu] at h
  | some d => simp [hu] at h; exact ⟨d, rfl, h.2⟩
theorem run_indexAt_sl {t e sz b o len cap : Nat} {i : Int} {k : IntKind} (h : slB P t e sz = true) (h0 : 0 ≤ i) (h1 : i < len) (w : World) :
    (Instr.indexAt t (.slice (some ⟨b, o, none⟩) len cap) (.int k i)).run P w = .ok (.pointer (some ⟨b, o + i.toNat * sz, none⟩)) w := by
  obtain ⟨inf, hi, hs⟩ := slB_info h
  simp [Instr.indexAt, asIntOf, run_underlying (slB_under h), h0, h1, sizeOf, my_typeInfo hi, hs, addr_add]
theorem q_indexAddr {t : TypeId} {y z : Operand} {e sz : Nat} {es : List (List D)} {k : IntKind} {i : Int} {x : List D} (ht : slB P t e sz = true) (hy : ev y = .d (.sl sz es)) (hz : ev z = .d (.v (.int k i))) (h0 : 0 ≤ i) (hx : es[i.toNat]? = some x) :
    QOp P w0 n s ev ⟨dst, .indexAddr t y z, ty, pos, after, g⟩ (.d (.pt x 0)) :=
  .mk fun a w ok blk val h _ hnew => by
    obtain ⟨A, cap, hv, hn, hcap, hsz, hs, hrest⟩ := sl_inv (show Rep w _ (.sl sz es) (a.eval y) by have := h y; rw [hy] at this; exact this)
    have hi : i.toNat < es.length := (List.getElem?_eq_some_iff.1 hx).1
    rcases hrest with rfl | ⟨b, off, vs, rfl, hb, hok, hc, hr⟩
    · simp at hi
    have hzv : a.eval z = .int k i := RepT.v_eq (hz ▸ h z)
    refine ⟨.pointer (some ⟨b, off + i.toNat * sz + 0, none⟩), w, ?_, Ext.refl w, Rep.pt x 0 b (off + i.toNat * sz) (fun j => vs i.toNat j) hb hok (fun j d hd => hs _ _ j d hx hd) (fun j d hd => hc _ _ j d hx hd) (fun j d hd => hr _ _ j d hx hd)⟩
    simp [execOp, hv, hzv, run_indexAt_sl ht h0 (show i < (es.length : Int) by omega)]
end
open Go

def PC (P : Program) (f : FuncId) (args : List D) (r : D) : Prop :=
  ∀ (w : World) (ok : Nat → Prop) (vs : List Value), RepL w ok args vs → Calls P f vs.toArray w fun e w' => ∃ v, e = .returned v ∧ Ext w w' ∧ Rep w' (fun b => ok b ∨ w.heap.size ≤ b) r v

def PCG (P : Program) (G : World → Prop) (f : FuncId) (args : List D) (r : D) : Prop :=
  ∀ (w : World) (ok : Nat → Prop) (vs : List Value), G w → RepL w ok args vs → Calls P f vs.toArray w fun e w' => ∃ v, e = .returned v ∧ Ext w w' ∧ Rep w' (fun b => ok b ∨ w.heap.size ≤ b) r v
theorem PC.g {P : Program} {G : World → Prop} {f : FuncId} {args : List D} {r : D} (h : PC P f args r) : PCG P G f args r := fun w ok vs _ hL => h w ok vs hL
def GKeep (G : World → Prop) : Prop := ∀ w w', G w → Ext w w' → G w'

inductive CUp : D → D → Prop
  | same (d : D) : CUp d d
  | nil (sz : Nat) : CUp (.v (.slice none 0 0)) (.sl sz [])
inductive CUpL : List D → List D → Prop
  | nil : CUpL [] []
  | cons {d d' : D} {ds ds' : List D} (h : CUp d d') (hs : CUpL ds ds') : CUpL (d :: ds) (d' :: ds')
theorem CUp.rep {w : World} {ok : Nat → Prop} {d d' : D} {v : Value} (h : CUp d d') (hr : Rep w ok d v) : Rep w ok d' v := by
  cases h with
  | same => exact hr
  | nil sz => rw [Rep.v_eq hr]; exact .emp _ _ _ (Nat.zero_le _)
theorem CUp.sc {d d' : D} (h : CUp d d') : d'.sc = d.sc := by cases h <;> rfl
theorem CUpL.at_ : ∀ {xs ys : List D}, CUpL xs ys → xs.length = ys.length ∧ ∀ (j : Nat) (d' : D), ys[j]? = some d' → ∃ d, xs[j]? = some d ∧ CUp d d'
  | _, _, .nil => ⟨rfl, fun j d' h => by simp at h⟩
  | _, _, .cons h hs => by
    obtain ⟨e, k⟩ := hs.at_
    refine ⟨by simp [e], fun j d' hj => ?_⟩
    cases j with
    | zero => simp at hj; subst hj; exact ⟨_, rfl, h⟩
    | succ j => exact k j d' (by simpa using hj)
theorem Rep.up_agg {w : World} {ok : Nat → Prop} {xs ys : List D} {v : Value} (hr : Rep w ok (.agg xs) v) (h : CUpL xs ys) : Rep w ok (.agg ys) v := by
  obtain ⟨el, ea⟩ := h.at_
  generalize hd : D.agg xs = d at hr
  cases hr <;> cases hd
  rename_i vs hl hs hr
  refine .agg ys vs (hl.trans el) (fun j d hj => ?_) (fun j d v hj hv => ?_)
  · obtain ⟨c, hc, hcu⟩ := ea j d hj
    rw [hcu.sc]; exact hs j c hc
  · obtain ⟨c, hc, hcu⟩ := ea j d hj
    exact hcu.rep (hr j c v hc hv)
inductive AsC (s : Nat → Site) : T → D → Prop
  | d (x : D) (h : x.sc = true) : AsC s (.d x) x
  | rs {k e sz : Nat} {es : List (List D)} (h : s k = .row e sz es) : AsC s (.rs k) (.sl sz es)
inductive AsL (s : Nat → Site) : List T → List D → Prop
  | nil : AsL s [] []
  | cons {x : T} {xs : List T} {d : D} {ds : List D} (h : AsC s x d) (hs : AsL s xs ds) : AsL s (x :: xs) (d :: ds)
theorem AsL.at_ {s : Nat → Site} : ∀ {xs : List T} {ds : List D}, AsL s xs ds → xs.length = ds.length ∧ ∀ (j : Nat) (d : D), ds[j]? = some d → ∃ x, xs[j]? = some x ∧ AsC s x d
  | _, _, .nil => ⟨rfl, fun j d h => by simp at h⟩
  | _, _, .cons h hs => by
    obtain ⟨h1, h2⟩ := hs.at_
    refine ⟨by simp [h1], fun j d hd => ?_⟩
    cases j with
    | zero => simp at hd; subst hd; exact ⟨_, rfl, h⟩
    | succ j => obtain ⟨x, hx, hc⟩ := h2 j d (by simpa using hd); exact ⟨x, by simpa using hx, hc⟩
theorem AsC.sc {s : Nat → Site} {x : T} {d : D} (h : AsC s x d) : d.sc = true := by cases h <;> first | assumption | rfl
inductive AsD (s : Nat → Site) : T → D → Prop
  | d (x : D) : AsD s (.d x) x
  | nil (sz : Nat) : AsD s (.d (.v (.slice none 0 0))) (.sl sz [])
  | rs {k e sz : Nat} {es : List (List D)} (h : s k = .row e sz es) : AsD s (.rs k) (.sl sz es)
  | up {xs ys : List D} (h : CUpL xs ys) : AsD s (.d (.agg xs)) (.agg ys)
  | ref {k o : Nat} {cs : List D} (h : s k = .box cs) : AsD s (.ref k o) (.pt cs o)
  | tref {k o : Nat} {cs : List T} {ds : List D} (h : s k = .tbox cs) (hc : AsL s cs ds) : AsD s (.ref k o) (.pt ds o)
inductive Args (ev : Operand → T) (s : Nat → Site) : List Operand → List D → Prop
  | nil : Args ev s [] []
  | cons {y : Operand} {ys : List Operand} {x : D} {xs : List D} (h : AsD s (ev y) x) (hs : Args ev s ys xs) : Args ev s (y :: ys) (x :: xs)
inductive ArgsD (ev : Operand → T) : List Operand → List D → Prop
  | nil : ArgsD ev [] []
  | cons {y : Operand} {ys : List Operand} {x : D} {xs : List D} (h : ev y = .d x) (hs : ArgsD ev ys xs) : ArgsD ev (y :: ys) (x :: xs)
  | consN {y : Operand} {ys : List Operand} {xs : List D} (sz : Nat) (h : ev y = .d (.v (.slice none 0 0))) (hs : ArgsD ev ys xs) : ArgsD ev (y :: ys) (.sl sz [] :: xs)
def FlatAll : List D → Prop
  | [] => True
  | d :: ds => d.Flat ∧ FlatAll ds
theorem FlatAll.mem : ∀ {ds : List D}, FlatAll ds → ∀ d ∈ ds, d.Flat
  | [], _, d, h => by cases h
  | x :: xs, h, d, hd => by
    rcases List.mem_cons.1 hd with rfl | h'
    · exact h.1
    · exact FlatAll.mem h.2 d h'
theorem D.Flat.aggF {cs : List D} (h : FlatAll cs) : (D.agg cs).Flat := .agg cs h.mem

section
variable {P : Program} {w0 : Cx} {n : Nat} {s : Nat → Site} {ev : Operand → T} {dst : Option Tmp} {ty : TypeId} {pos : String} {after : Array Edge} {g : Option (Nat × Bool)}

theorem cell_of_block {w : World} {b j : Nat} {vals : Array Value} {e : TypeId} {fr : Nat × Nat} (h : w.heap[b]? = some (.cells vals e fr)) : w.cell? ⟨b, j, none⟩ = vals[j]? := by
  simp [World.cell?, h]
theorem getD_val {vals : Array Value} {j : Nat} {v : Value} (h : vals[j]? = some v) : vals.getD j undef = v := by
  simp [h]

theorem Rep.asC {w : World} {blk : Nat → Option Nat} {val : Nat → Value} {ok ok' : Nat → Prop} {x : T} {d : D} {v : Value} (hx : RepT w ok blk val s x v) (hs : ∀ k, SiteIn w ok blk val s (blk k) (val k) (s k)) (h : AsC s x d) (hok : ∀ b, ok b → ok' b) (hb : ∀ k b, blk k = some b → ok' b) : Rep w ok' d v := by
  cases h with
  | d x _ => exact Rep.ok (hx : Rep w _ _ v) fun _ _ h => hok _ h
  | rs hk =>
    rename_i k e sz es
    obtain ⟨_, hv⟩ := hx
    have h1 := hs k
    rw [hk] at h1
    obtain ⟨a1, a2, a3⟩ := h1
    rcases a3 with ⟨_, he, hval⟩ | ⟨b, vals, cap, hb', hval, hn, hcap, hh, hsz, hc⟩
    · rw [hv, hval, he]; exact .emp sz none 0 (Nat.zero_le _)
    · rw [hv, hval]
      exact .sl sz es b 0 cap (fun i j => vals.getD (i * sz + j) undef) (heap_lt hh) (hb k b hb') hn hcap a1 a2 (fun i x j d hi hj => by
        obtain ⟨v, hv, _⟩ := hc i x j d hi hj
        rw [cell_of_block hh, Nat.zero_add, hv, getD_val hv]) (fun i x j d hi hj => by
        obtain ⟨v, hv, hr⟩ := hc i x j d hi hj
        rw [getD_val hv]; exact hr.ok fun _ _ h => hok _ h)
theorem Rep.as' {w : World} {blk : Nat → Option Nat} {val : Nat → Value} {ok ok' : Nat → Prop} {x : T} {d : D} {v : Value} (hx : RepT w ok blk val s x v) (hs : ∀ k, SiteIn w ok blk val s (blk k) (val k) (s k)) (h : AsD s x d) (hok : ∀ b, ok b → ok' b) (hb : ∀ k b, blk k = some b → ok' b) : Rep w ok' d v := by
  cases h with
  | d x => exact Rep.ok (hx : Rep w _ _ v) fun _ _ h => hok _ h
  | nil sz =>
    have := Rep.v_eq (hx : Rep w _ (.v _) v)
    subst this
    exact .emp sz none 0 (Nat.zero_le _)
  | up h => exact Rep.up_agg (Rep.ok (hx : Rep w _ _ v) fun _ _ h => hok _ h) h
  | rs hk =>
    rename_i k e sz es
    obtain ⟨_, hv⟩ := hx
    have h1 := hs k
    rw [hk] at h1
    obtain ⟨a1, a2, a3⟩ := h1
    rcases a3 with ⟨_, he, hval⟩ | ⟨b, vals, cap, hb', hval, hn, hcap, hh, hsz, hc⟩
    · rw [hv, hval, he]; exact .emp sz none 0 (Nat.zero_le _)
    · rw [hv, hval]
      exact .sl sz es b 0 cap (fun i j => vals.getD (i * sz + j) undef) (heap_lt hh) (hb k b hb') hn hcap a1 a2 (fun i x j d hi hj => by
        obtain ⟨v, hv, _⟩ := hc i x j d hi hj
        rw [cell_of_block hh, Nat.zero_add, hv, getD_val hv]) (fun i x j d hi hj => by
        obtain ⟨v, hv, hr⟩ := hc i x j d hi hj
        rw [getD_val hv]; exact hr.ok fun _ _ h => hok _ h)
  | tref hk hc =>
    rename_i k o cs ds
    obtain ⟨_, b, hb', hv⟩ := hx
    have h1 := hs k
    rw [hk] at h1
    obtain ⟨b', e, vals, hb'', hh, hsz, hc'⟩ := h1
    rw [hb'] at hb''; cases hb''
    rw [hv]
    obtain ⟨_, hcl⟩ := hc.at_
    have := Rep.pt (ok := ok') ds o b 0 (fun j => vals.getD j undef) (heap_lt hh) (hb k b hb') (fun j d hd => by obtain ⟨x, _, h⟩ := hcl j d hd; exact h.sc) (fun j d hd => by
      obtain ⟨x, hx, _⟩ := hcl j d hd
      obtain ⟨v, hv, _⟩ := hc' j x hx
      rw [cell_of_block hh, Nat.zero_add, hv, getD_val hv]) (fun j d hd => by
      obtain ⟨x, hx, hxd⟩ := hcl j d hd
      obtain ⟨v, hv, _, hr⟩ := hc' j x hx
      rw [getD_val hv]; exact Rep.asC hr hs hxd hok hb)
    simpa using this
  | ref hk =>
    rename_i k o cs
    obtain ⟨_, b, hb', hv⟩ := hx
    have h1 := hs k
    rw [hk] at h1
    obtain ⟨b', e, vals, hb'', hh, hsz, hsc, hc⟩ := h1
    rw [hb'] at hb''; cases hb''
    rw [hv]
    have := Rep.pt (ok := ok') cs o b 0 (fun j => vals.getD j undef) (heap_lt hh) (hb k b hb') hsc (fun j d hd => by
      obtain ⟨v, hv, _⟩ := hc j d hd
      rw [cell_of_block hh, Nat.zero_add, hv, getD_val hv]) (fun j d hd => by
      obtain ⟨v, hv, hr⟩ := hc j d hd
      rw [getD_val hv]; exact hr.ok fun _ _ h => hok _ h)
    simpa using this

theorem Rep.as {w : World} {blk : Nat → Option Nat} {val : Nat → Value} {ok : Nat → Prop} {x : T} {d : D} {v : Value} (hx : RepT w ok blk val s x v) (hs : ∀ k, SiteIn w ok blk val s (blk k) (val k) (s k)) (h : AsD s x d) : Rep w (fun _ => True) d v :=
  Rep.as' hx hs h (fun _ _ => trivial) (fun _ _ _ => trivial)

def enB (P : Program) (f : FuncId) : Bool := match P.funcs[f]? with | some fn => fn.name != "runtime.NumGoroutine" && fn.body.isSome | none => false
theorem run_callFunc {f : FuncId} (h : enB P f = true) (args : Array Value) (w : World) : (callFunc f args).run P w = .ok (.enter f args) w := by
  unfold enB at h
  cases hf : P.funcs[f]? with
  | none => simp [hf] at h
  | some fn =>
    simp only [hf, Bool.and_eq_true, bne_iff_ne, ne_eq] at h
    obtain ⟨h1, h2⟩ := h
    have hb : ∃ c, fn.body = some c := Option.isSome_iff_exists.1 h2
    obtain ⟨c, hc⟩ := hb
    simp [callFunc, hf, h1, hc]
theorem run_callValue {o : Oper} {a : Act} {w : World} {fv : Operand} {args : Array Operand} {at_ : Array TypeId} {f : FuncId} {cap : Array Value} (ho : o.op = .call ⟨.value fv, args, at_⟩) (hf : a.eval fv = .func (.func f) #[] cap) (h : enB P f = true) :
    (execOp a.eval o).run P w = .ok (.enter f (args.map a.eval ++ cap)) w := by
  simp [execOp, ho, resolve, hf, Deferred.ofValue, invoke, run_callFunc h]

theorem args_rep {a : Act} {w : World} {blk : Nat → Option Nat} {val : Nat → Value} {ok : Nat → Prop} (hy : ∀ y, RepT w ok blk val s (ev y) (a.eval y)) : ∀ {ys : List Operand} {ds : List D}, ArgsD ev ys ds → RepL w ok ds (ys.map a.eval)
  | _, _, .nil => trivial
  | _, _, .cons (y := y) h hs => ⟨by have := hy y; rw [h] at this; exact this, args_rep hy hs⟩
  | _, _, .consN (y := y) sz h hs => ⟨by
      have := hy y; rw [h] at this
      rw [Rep.v_eq (this : Rep w _ (.v _) _)]
      exact .emp sz none 0 (Nat.zero_le _), args_rep hy hs⟩
theorem args_repF {a : Act} {w : World} {blk : Nat → Option Nat} {val : Nat → Value} {ok : Nat → Prop} (hy : ∀ y, RepT w ok blk val s (ev y) (a.eval y)) (hs : ∀ k, SiteIn w ok blk val s (blk k) (val k) (s k)) : ∀ {ys : List Operand} {ds : List D}, Args ev s ys ds → RepL w (fun _ => True) ds (ys.map a.eval)
  | _, _, .nil => trivial
  | _, _, .cons (y := y) h h' => ⟨Rep.as (hy y) hs h, args_repF hy hs h'⟩
theorem RepL.append {w : World} {ok : Nat → Prop} : ∀ {ds : List D} {vs : List Value} {ds' : List D} {vs' : List Value}, RepL w ok ds vs → RepL w ok ds' vs' → RepL w ok (ds ++ ds') (vs ++ vs')
  | [], [], _, _, _, h => h
  | _ :: _, _ :: _, _, _, h, h' => ⟨h.1, h.2.append h'⟩
  | [], _ :: _, _, _, h, _ => h.elim
  | _ :: _, [], _, _, h, _ => h.elim
theorem RepL.length {w : World} {ok : Nat → Prop} : ∀ {ds : List D} {vs : List Value}, RepL w ok ds vs → vs.length = ds.length
  | [], [], _ => rfl
  | _ :: _, _ :: _, h => by simp [h.2.length]
  | [], _ :: _, h => h.elim
  | _ :: _, [], h => h.elim
theorem RepL.of {w : World} {ok : Nat → Prop} : ∀ {ds : List D} {vs : List Value}, vs.length = ds.length → (∀ (j : Nat) (d : D) (v : Value), ds[j]? = some d → vs[j]? = some v → Rep w ok d v) → RepL w ok ds vs
  | [], [], _, _ => trivial
  | d :: ds, v :: vs, hl, h => ⟨h 0 d v rfl rfl, RepL.of (by simpa using hl) fun j d v h1 h2 => h (j + 1) d v (by simpa using h1) (by simpa using h2)⟩
  | [], _ :: _, h, _ => by simp at h
  | _ :: _, [], h, _ => by simp at h
theorem RepL.get {w : World} {ok : Nat → Prop} : ∀ {ds : List D} {vs : List Value}, RepL w ok ds vs → ∀ (j : Nat) (d : D) (v : Value), ds[j]? = some d → vs[j]? = some v → Rep w ok d v
  | [], [], _, j, _, _, h, _ => by simp at h
  | _ :: _, _ :: _, h, 0, d, v, h1, h2 => by simp at h1 h2; subst h1; subst h2; exact h.1
  | _ :: _, _ :: _, h, j + 1, d, v, h1, h2 => h.2.get j d v (by simpa using h1) (by simpa using h2)
  | [], _ :: _, h, _, _, _, _, _ => h.elim
  | _ :: _, [], h, _, _, _, _, _ => h.elim
theorem fn_inv {w : World} {ok : Nat → Prop} {f : Fn} {cap : List D} {v : Value} (h : Rep w ok (.fn f cap) v) : ∃ vs : List Value, v = .func f #[] vs.toArray ∧ RepL w ok cap vs := by
  generalize hd : D.fn f cap = x at h
  cases h with
  | fn f cap vs hl hr => cases hd; exact ⟨vs, rfl, RepL.of hl hr⟩
  | _ => cases hd

theorem q_callWG {G : World → Prop} (hG : ∀ w, ExtM w0 w → G w) {fv : Operand} {ys : List Operand} {at_ : Array TypeId} {f : FuncId} {cap ds : List D} {r : D} (hf : ev fv = .d (.fn (.func f) cap)) (he : enB P f = true) (hr : PCG P G f (ds ++ cap) r)
    (hok : ∀ (a : Act) (w : World) (okA : Nat → Prop) (blk : Nat → Option Nat) (val : Nat → Value), (∀ y, RepT w okA blk val s (ev y) (a.eval y)) → (∀ k, SiteIn w okA blk val s (blk k) (val k) (s k)) → ∃ ok : Nat → Prop, RepL w ok ds (ys.map a.eval) ∧ (∀ b, b < w.heap.size → okA b → ok b) ∧ ((∀ b, ok b → okA b) ∨ r.Flat)) :
    QOp P w0 n s ev ⟨dst, .call ⟨.value fv, ys.toArray, at_⟩, ty, pos, after, g⟩ (.d r) := by
  intro st a w ⟨blk, val, hh⟩ hs hn hev hd
  obtain ⟨blk', hy, hsite, _⟩ := QOp.core hh hs hev
  obtain ⟨ok, hargs, hmono, hres⟩ := hok a w (okOf w0 blk) blk' val hy hsite
  obtain ⟨vs, hv, hcap⟩ := fn_inv (show Rep w _ (.fn (.func f) cap) (a.eval fv) by have := hy fv; rw [hf] at this; exact this)
  have hcap' : RepL w ok cap vs := RepL.of hcap.length fun j d v h1 h2 => (hcap.get j d v h1 h2).ok hmono
  refine ow_of_wp (fun c hc => by cases hc) ?_
  unfold Oper.wp
  rw [run_callValue rfl hv he]
  have hc := hr w ok (ys.map a.eval ++ vs) (hG w hh.ext) (hargs.append hcap')
  have harr : ((ys.map a.eval ++ vs).toArray : Array Value) = ys.toArray.map a.eval ++ vs.toArray := by simp
  rw [harr] at hc
  refine hc.mono ?_
  rintro e w' ⟨v, rfl, hE, hR⟩
  refine ⟨blk, val, (hh.ext' hE).put dst (.d r) v (fun d h => by rw [hn]; exact hd d h) ?_⟩
  rcases hres with h1 | h1
  · refine Rep.ok hR fun b _ hb => ?_
    rcases hb with hb | hb
    · exact h1 b hb
    · exact ⟨.inr (Nat.le_trans hh.ext.size hb), fun k hk => by have := (hh.new k b hk).2; omega⟩
  · exact Rep.flat hR h1
theorem q_callW {fv : Operand} {ys : List Operand} {at_ : Array TypeId} {f : FuncId} {cap ds : List D} {r : D} (hf : ev fv = .d (.fn (.func f) cap)) (he : enB P f = true) (hr : PC P f (ds ++ cap) r)
    (hok : ∀ (a : Act) (w : World) (okA : Nat → Prop) (blk : Nat → Option Nat) (val : Nat → Value), (∀ y, RepT w okA blk val s (ev y) (a.eval y)) → (∀ k, SiteIn w okA blk val s (blk k) (val k) (s k)) → ∃ ok : Nat → Prop, RepL w ok ds (ys.map a.eval) ∧ (∀ b, b < w.heap.size → okA b → ok b) ∧ ((∀ b, ok b → okA b) ∨ r.Flat)) :
    QOp P w0 n s ev ⟨dst, .call ⟨.value fv, ys.toArray, at_⟩, ty, pos, after, g⟩ (.d r) :=
  q_callWG (G := fun _ => True) (fun _ _ => trivial) hf he hr.g hok
theorem q_callG {G : World → Prop} {f : FuncId} {ys : List Operand} {at_ : Array TypeId} {ds : List D} {r : D} (he : enB P f = true) (ha : ArgsD ev ys ds) (hev : ev (.func f) = .d (.fn (.func f) [])) (hG : ∀ w, ExtM w0 w → G w) (hr : PCG P G f ds r) :
    QOp P w0 n s ev ⟨dst, .call ⟨.value (.func f), ys.toArray, at_⟩, ty, pos, after, g⟩ (.d r) :=
  q_callWG hG (cap := []) (ds := ds) hev he (by simpa using hr) fun a w okA blk val hy _ => ⟨okA, args_rep hy ha, fun _ _ h => h, .inl fun _ h => h⟩
theorem q_call {f : FuncId} {ys : List Operand} {at_ : Array TypeId} {ds : List D} {r : D} (he : enB P f = true) (ha : ArgsD ev ys ds) (hev : ev (.func f) = .d (.fn (.func f) [])) (hr : PC P f ds r) :
    QOp P w0 n s ev ⟨dst, .call ⟨.value (.func f), ys.toArray, at_⟩, ty, pos, after, g⟩ (.d r) :=
  q_callW (cap := []) (ds := ds) hev he (by simpa using hr) fun a w okA blk val hy _ => ⟨okA, args_rep hy ha, fun _ _ h => h, .inl fun _ h => h⟩
theorem q_callF {f : FuncId} {ys : List Operand} {at_ : Array TypeId} {ds : List D} {r : D} (he : enB P f = true) (ha : Args ev s ys ds) (hev : ev (.func f) = .d (.fn (.func f) [])) (hr : PC P f ds r) (hf : r.Flat) :
    QOp P w0 n s ev ⟨dst, .call ⟨.value (.func f), ys.toArray, at_⟩, ty, pos, after, g⟩ (.d r) :=
  q_callW (cap := []) (ds := ds) hev he (by simpa using hr) fun a w okA blk val hy hs => ⟨fun _ => True, args_repF hy hs ha, fun _ _ _ => trivial, .inr hf⟩
theorem q_callC {fv : Operand} {f : FuncId} {ys : List Operand} {at_ : Array TypeId} {cap ds : List D} {r : D} (he : enB P f = true) (hev : ev fv = .d (.fn (.func f) cap)) (ha : ArgsD ev ys ds) (hr : PC P f (ds ++ cap) r) :
    QOp P w0 n s ev ⟨dst, .call ⟨.value fv, ys.toArray, at_⟩, ty, pos, after, g⟩ (.d r) :=
  q_callW hev he hr fun a w okA blk val hy _ => ⟨okA, args_rep hy ha, fun _ _ h => h, .inl fun _ h => h⟩

theorem new_block (w : World) (o : Obj) : (w.alloc o).heap[w.heap.size]? = some o := heap_alloc_new w o
theorem tup_inv {w : World} {ok : Nat → Prop} {cs : List D} {v : Value} (h : Rep w ok (.tup cs) v) : ∃ vs : List Value, v = .tuple vs.toArray ∧ RepL w ok cs vs := by
  generalize hd : D.tup cs = x at h
  cases h with
  | tup cs vs hl hr => cases hd; exact ⟨vs, rfl, RepL.of hl hr⟩
  | _ => cases hd
theorem agg_inv {w : World} {ok : Nat → Prop} {cs : List D} {v : Value} (h : Rep w ok (.agg cs) v) : ∃ vs : List Value, v = .agg vs.toArray ∧ RepL w ok cs vs ∧ ∀ (j : Nat) (d : D), cs[j]? = some d → d.sc = true := by
  generalize hd : D.agg cs = x at h
  cases h with
  | agg cs vs hl hs hr => cases hd; exact ⟨vs, rfl, RepL.of hl hr, hs⟩
  | _ => cases hd
theorem RepL.at_ {w : World} {ok : Nat → Prop} {ds : List D} {vs : List Value} (h : RepL w ok ds vs) {j : Nat} {d : D} (hd : ds[j]? = some d) : ∃ v, vs[j]? = some v ∧ Rep w ok d v := by
  have hj := (List.getElem?_eq_some_iff.1 hd).1
  have : j < vs.length := by rw [h.length]; exact hj
  exact ⟨vs[j], List.getElem?_eq_getElem this, h.get j d _ hd (List.getElem?_eq_getElem this)⟩
theorem q_extract {y : Operand} {i : Nat} {cs : List D} {d : D} (hy : ev y = .d (.tup cs)) (hd : cs[i]? = some d) : QOp P w0 n s ev ⟨dst, .extract y i, ty, pos, after, g⟩ (.d d) :=
  .mk fun a w ok blk val h _ hnew => by
    obtain ⟨vs, hv, hL⟩ := tup_inv (show Rep w _ (.tup cs) (a.eval y) by have := h y; rw [hy] at this; exact this)
    obtain ⟨v, hvi, hr⟩ := hL.at_ hd
    refine ⟨v, w, ?_, Ext.refl w, hr⟩
    simp [execOp, hv, Instr.extract, hvi]
theorem cells_inv {w : World} {ok : Nat → Prop} {d : D} {v : Value} (h : Rep w ok d v) (hd : d.sc = true ∨ ∃ cs, d = .agg cs) : RepL w ok d.cells v.cells.toList ∧ ∀ (j : Nat) (x : D), d.cells[j]? = some x → x.sc = true := by
  rcases hd with hd | ⟨cs, rfl⟩
  · have h1 : d.cells = [d] := by cases d <;> first | rfl | cases hd
    have h2 : v.cells = #[v] := by
      have := h.one hd
      cases v <;> first | rfl | cases this
    rw [h1, h2]
    exact ⟨⟨h, trivial⟩, fun j x hx => by
      cases j with
      | zero => simp at hx; subst hx; exact hd
      | succ j => simp at hx⟩
  · obtain ⟨vs, rfl, hL, hs⟩ := agg_inv h
    exact ⟨by simpa [Value.cells, D.cells] using hL, hs⟩
theorem q_box {e : TypeId} {y : Operand} {d : D} (hy : ev y = .d d) (hd : d.sc = true ∨ ∃ cs, d = .agg cs) : QOp P w0 n s ev ⟨dst, .box e y, ty, pos, after, g⟩ (.d (.pt d.cells 0)) :=
  .mk fun a w ok blk val h _ hnew => by
    have hr : Rep w (ok) d (a.eval y) := by have := h y; rw [hy] at this; exact this
    obtain ⟨hL, hs⟩ := cells_inv hr hd
    have hE : Ext w (w.alloc (.cells (a.eval y).cells e)) := (Ext.refl w).alloc _
    refine ⟨.pointer (some ⟨w.heap.size, 0, none⟩), w.alloc (.cells (a.eval y).cells e), by simp [execOp, Instr.box, newVar, newRow], hE, ?_⟩
    have := Rep.pt (w := w.alloc (.cells (a.eval y).cells e)) (ok := ok) d.cells 0 w.heap.size 0 (fun j => (a.eval y).cells.getD j undef) (by simp) (hnew _ (Nat.le_refl _)) hs (fun j x hx => by
      obtain ⟨v, hv, _⟩ := hL.at_ hx
      rw [cell_of_block (new_block _ _), Nat.zero_add]
      have hv' : (a.eval y).cells[j]? = some v := by simpa using hv
      rw [hv', getD_val hv']) (fun j x hx => by
      obtain ⟨v, hv, hr⟩ := hL.at_ hx
      have hv' : (a.eval y).cells[j]? = some v := by simpa using hv
      rw [getD_val hv']; exact hr.ext hE fun _ _ h => h)
    show Rep _ _ _ _
    simpa using this
end
open Go

section
variable {P : Program} {w0 : Cx}

def thenR (K : St → Prop) (R : Exit → St → Prop) : Exit → St → Prop
  | .normal, st => K st
  | e, st => R e st
def blockR (id : Nat) (R : Exit → St → Prop) : Exit → St → Prop
  | .exit id', st => if id' = id then R .normal st else R (.exit id') st
  | e, st => R e st
def Le (w0 : Cx) (s s' : St) : Prop := ∀ a w, Holds w0 s a w → Holds w0 s' a w

theorem Awp.le {c : Code} {R : Exit → St → Prop} {s s' : St} (hl : Le w0 s s') (h : Awp P w0 c R s') : Awp P w0 c R s := fun F m hF a w hH => h F m hF a w (hl a w hH)
theorem awp_seq {x y : Code} {R : Exit → St → Prop} {st : St} (h : Awp P w0 x (thenR (fun st' => Awp P w0 y R st') R) st) : Awp P w0 (.seq x y) R st := fun F m hF a w hH =>
  wpIn_seq (wpIn_mono (h F m hF a w hH) fun e a' w' ⟨st', hR, hH'⟩ => by
    cases e with
    | normal => exact hR F m hF a' w' hH'
    | _ => exact ⟨st', hR, hH'⟩)
theorem awp_skip {R : Exit → St → Prop} {st : St} (h : R .normal st) : Awp P w0 .skip R st := fun _ _ _ _ _ hH => wpIn_skip ⟨st, h, hH⟩
theorem awp_ret {R : Exit → St → Prop} {st : St} (h : R .ret st) : Awp P w0 .ret R st := fun _ _ _ _ _ hH => wpIn_ret ⟨st, h, hH⟩
theorem awp_exit {id : Nat} {R : Exit → St → Prop} {st : St} (h : R (.exit id) st) : Awp P w0 (.exit id) R st := fun _ _ _ _ _ hH => wpIn_exit ⟨st, h, hH⟩
theorem awp_cond {c : Operand} {x y : Code} {R : Exit → St → Prop} {st : St} {b : Bool} (hc : st.ev c = T.bool b) (ht : b = true → Awp P w0 x R st) (hf : b = false → Awp P w0 y R st) : Awp P w0 (.cond c x y) R st := by
  intro F m hF a w hH
  have hv : a.eval c = .bool b := by obtain ⟨blk, val, hh⟩ := hH; exact hh.bool hc
  exact wpIn_cond_split hv (fun h => ht h F m hF a w hH) (fun h => hf h F m hF a w hH)
theorem awp_block {id : Nat} {c : Code} {R : Exit → St → Prop} {st : St} (h : Awp P w0 c (blockR id R) st) : Awp P w0 (.block id c) R st := fun F m hF a w hH =>
  wpIn_block (wpIn_mono (h F m hF a w hH) fun e a' w' ⟨st', hR, hH'⟩ => by
    cases e with
    | exit id' =>
      by_cases hid : id' = id
      · simp only [blockR, hid, if_true] at hR
        simp only [Exit.inBlock, hid, if_true]
        exact ⟨st', hR, hH'⟩
      · simp only [blockR, hid, if_false] at hR
        simp only [Exit.inBlock, hid, if_false]
        exact ⟨st', hR, hH'⟩
    | _ => exact ⟨st', hR, hH'⟩)
/- what a loop's head knows -/
def memN (t : Nat) : List Nat → Bool
  | [] => false
  | x :: xs => Nat.beq t x || memN t xs
def killT (ts : List Nat) : T → T
  | .ref k o => if memN k ts then .dead else .ref k o
  | .rs k => if memN k ts then .dead else .rs k
  | .own k r f g => if memN k ts then .dead else .own k r f g
  | x => x
def killSite (ts : List Nat) : Site → Site
  | .tbox cs => .tbox (cs.map (killT ts))
  | x => x
def lookN {α : Type} (t : Nat) : List (Nat × α) → Option α
  | [] => none
  | (k, v) :: xs => bif Nat.beq t k then some v else lookN t xs
def headSt (st : St) (ts : List Nat) (sl : List (Nat × T)) (ss : List (Nat × Site)) : St :=
  { n := st.n
    t := fun t => match lookN t sl with | some x => x | none => bif memN t ts then .dead else killT ts (st.t t)
    s := fun k => match lookN k ss with | some x => x | none => bif memN k ts then .no else killSite ts (st.s k) }
structure Out (ts ms : List Nat) (s s0 : St) : Prop where
  n : s.n = s0.n
  t : ∀ t, memN t ts = false → ∃ ks, (∀ k, memN k ks = true → memN k ts = true) ∧ s.t t = killT ks (s0.t t)
  s : ∀ t, memN t ts = false → memN t ms = false → ∃ ks, (∀ k, memN k ks = true → memN k ts = true) ∧ s.s t = killSite ks (s0.s t)
theorem killT_nil (x : T) : killT [] x = x := by cases x <;> rfl
theorem killSite_nil (x : Site) : killSite [] x = x := by
  cases x with
  | tbox cs =>
    simp only [killSite, Site.tbox.injEq]
    conv => rhs; rw [← List.map_id cs]
    exact List.map_congr_left fun y _ => killT_nil y
  | _ => rfl
theorem killT_sub {ks ts : List Nat} (h : ∀ k, memN k ks = true → memN k ts = true) (x : T) : killT ts (killT ks x) = killT ts x := by
  cases x with
  | ref j o =>
    simp only [killT]
    cases hk : memN j ks
    · rfl
    · simp [h j hk, killT]
  | rs j =>
    simp only [killT]
    cases hk : memN j ks
    · rfl
    · simp [h j hk, killT]
  | own j r f g =>
    simp only [killT]
    cases hk : memN j ks
    · rfl
    · simp [h j hk, killT]
  | _ => rfl
theorem killSite_sub {ks ts : List Nat} (h : ∀ k, memN k ks = true → memN k ts = true) (x : Site) : killSite ts (killSite ks x) = killSite ts x := by
  cases x with
  | tbox cs => simp only [killSite, List.map_map, Site.tbox.injEq]; exact List.map_congr_left fun y _ => killT_sub h y
  | _ => rfl
theorem killT_app (ks js : List Nat) (x : T) : killT js (killT ks x) = killT (ks ++ js) x := by
  have ha : ∀ j, memN j (ks ++ js) = (memN j ks || memN j js) := fun j => by
    induction ks with
    | nil => rfl
    | cons x xs ih => simp [memN, ih, Bool.or_assoc]
  cases x with
  | ref j o => simp only [killT, ha]; cases hk : memN j ks <;> simp [killT]
  | rs j => simp only [killT, ha]; cases hk : memN j ks <;> simp [killT]
  | own j r f g => simp only [killT, ha]; cases hk : memN j ks <;> simp [killT]
  | _ => rfl
theorem killSite_app (ks js : List Nat) (x : Site) : killSite js (killSite ks x) = killSite (ks ++ js) x := by
  cases x with
  | tbox cs => simp only [killSite, List.map_map, Site.tbox.injEq]; exact List.map_congr_left fun y _ => killT_app ks js y
  | _ => rfl
theorem Out.refl {ts ms : List Nat} (s : St) : Out ts ms s s := ⟨rfl, fun _ _ => ⟨[], fun _ h => (by cases h), (killT_nil _).symm⟩, fun _ _ _ => ⟨[], fun _ h => (by cases h), (killSite_nil _).symm⟩⟩
theorem Out.put {ts ms : List Nat} {s s0 : St} {d : Nat} {x : T} (hO : Out ts ms s s0) (h : memN d ts = true) : Out ts ms (s.put (some d) x) s0 :=
  ⟨hO.n, fun t ht => by
    have : Nat.beq t d = false := by rw [← Bool.not_eq_true]; intro e; rw [Nat.eq_of_beq_eq_true e, h] at ht; cases ht
    simp only [St.put, this, cond_false]; exact hO.t t ht, hO.s⟩
theorem Out.site {ts ms : List Nat} {s s0 : St} {d : Nat} {x : Site} (hO : Out ts ms s s0) (h : (memN d ts || memN d ms) = true) : Out ts ms (s.site d x) s0 :=
  ⟨hO.n, hO.t, fun t ht hm => by
    have : Nat.beq t d = false := by rw [← Bool.not_eq_true]; intro e; rw [Nat.eq_of_beq_eq_true e] at ht hm; rw [ht, hm] at h; cases h
    simp only [St.site, this, cond_false]; exact hO.s t ht hm⟩
def keysIn {α : Type} (ts : List Nat) : List (Nat × α) → Bool
  | [] => true
  | (k, _) :: xs => memN k ts && keysIn ts xs
theorem keysIn_none {α : Type} {ts : List Nat} {t : Nat} (ht : memN t ts = false) : ∀ {l : List (Nat × α)}, keysIn ts l = true → lookN t l = none
  | [], _ => rfl
  | (k, v) :: xs, h => by
    simp only [keysIn, Bool.and_eq_true] at h
    have hb : Nat.beq t k = false := by rw [← Bool.not_eq_true]; intro e; rw [Nat.eq_of_beq_eq_true e, h.1] at ht; cases ht
    simp only [lookN, hb, cond_false]; exact keysIn_none ht h.2
theorem memN_app {t : Nat} {a b : List Nat} : memN t (a ++ b) = (memN t a || memN t b) := by
  induction a with
  | nil => rfl
  | cons x xs ih => simp [memN, ih, Bool.or_assoc]
theorem Out.head {ts ms : List Nat} {s0 : St} {sl : List (Nat × T)} {ss : List (Nat × Site)} (h1 : keysIn ts sl = true) (h2 : keysIn (ts ++ ms) ss = true) : Out ts ms (headSt s0 ts sl ss) s0 := by
  refine ⟨rfl, fun t ht => ?_, fun t ht hm => ?_⟩
  · exact ⟨ts, fun _ h => h, by simp only [headSt, keysIn_none ht h1, ht, cond_false]⟩
  · have : memN t (ts ++ ms) = false := by rw [memN_app, ht, hm]; rfl
    exact ⟨ts, fun _ h => h, by simp only [headSt, keysIn_none this h2, ht, cond_false]⟩
def AllT (s : St) : List (Nat × T) → Prop
  | [] => True
  | (k, v) :: xs => s.t k = v ∧ AllT s xs
def AllS (s : St) : List (Nat × Site) → Prop
  | [] => True
  | (k, v) :: xs => s.s k = v ∧ AllS s xs
theorem AllT.mem {s : St} : ∀ {l : List (Nat × T)}, AllT s l → ∀ p ∈ l, s.t p.1 = p.2
  | [], _, p, h => by cases h
  | (k, v) :: xs, h, p, hp => by
    rcases List.mem_cons.1 hp with rfl | hp
    · exact h.1
    · exact AllT.mem h.2 p hp
theorem AllS.mem {s : St} : ∀ {l : List (Nat × Site)}, AllS s l → ∀ p ∈ l, s.s p.1 = p.2
  | [], _, p, h => by cases h
  | (k, v) :: xs, h, p, hp => by
    rcases List.mem_cons.1 hp with rfl | hp
    · exact h.1
    · exact AllS.mem h.2 p hp
def msOk (ts : List Nat) (ss : List (Nat × Site)) : List Nat → Bool
  | [] => true
  | k :: ks => (memN k ts || (lookN k ss).isSome) && msOk ts ss ks
def slOk (ts : List Nat) (ss : List (Nat × Site)) : List (Nat × T) → Bool
  | [] => true
  | (_, x) :: xs => (match x with | .rs k => !memN k ts || (lookN k ss).isSome | .own k _ _ _ => !memN k ts || (lookN k ss).isSome | .ref k _ => !memN k ts || (lookN k ss).isSome | _ => true) && slOk ts ss xs
theorem lookN_mem {α : Type} {t : Nat} : ∀ {l : List (Nat × α)} {x : α}, lookN t l = some x → (t, x) ∈ l
  | [], _, h => by cases h
  | (k, v) :: xs, x, h => by
    simp only [lookN] at h
    cases hb : Nat.beq t k with
    | true =>
      rw [hb] at h
      rw [Nat.eq_of_beq_eq_true hb]
      simp only [cond_true, Option.some.injEq] at h
      subst h; simp
    | false => rw [hb] at h; exact List.mem_cons_of_mem _ (lookN_mem h)
theorem killT_or (ts : List Nat) (x : T) : killT ts x = x ∨ killT ts x = .dead := by
  cases x with
  | ref k o => simp only [killT]; split; exact .inr rfl; exact .inl rfl
  | rs k => simp only [killT]; split; exact .inr rfl; exact .inl rfl
  | own k r f g => simp only [killT]; split; exact .inr rfl; exact .inl rfl
  | _ => exact .inl rfl
theorem killT_live {ts : List Nat} {x : T} {k : Nat} (h : killT ts x = .rs k ∨ (∃ o, killT ts x = .ref k o) ∨ ∃ r f g, killT ts x = .own k r f g) : memN k ts = false := by
  cases x with
  | ref j o =>
    simp only [killT] at h
    cases hj : memN j ts <;> simp [hj] at h
    rw [← h]; exact hj
  | rs j =>
    simp only [killT] at h
    cases hj : memN j ts <;> simp [hj] at h
    rw [← h]; exact hj
  | own j r f g =>
    simp only [killT] at h
    cases hj : memN j ts <;> simp [hj] at h
    rw [← h]; exact hj
  | _ => simp [killT] at h
theorem killSite_rel (ts : List Nat) (x : Site) : killSite ts x = x ∨ ∃ cs cs', x = .tbox cs ∧ killSite ts x = .tbox cs' ∧ cs'.length = cs.length ∧ ∀ (j : Nat) (y : T), cs'[j]? = some y → y = .dead ∨ cs[j]? = some y := by
  cases x with
  | tbox cs =>
    refine .inr ⟨cs, cs.map (killT ts), rfl, rfl, by simp, fun j y hy => ?_⟩
    rw [List.getElem?_map] at hy
    cases hj : cs[j]? with
    | none => rw [hj] at hy; cases hy
    | some z =>
      rw [hj] at hy
      cases hy
      rcases killT_or ts z with e | e
      · exact .inr (by rw [e])
      · exact .inl e
  | _ => exact .inl rfl
theorem killSite_live {ts : List Nat} {x : Site} {cs : List T} (h : killSite ts x = .tbox cs) : ∀ y ∈ cs, ∀ k, (y = .rs k ∨ (∃ o, y = .ref k o) ∨ ∃ r f g, y = .own k r f g) → memN k ts = false := by
  cases x with
  | tbox cs' =>
    simp only [killSite, Site.tbox.injEq] at h
    subst h
    intro y hy k hk
    obtain ⟨z, _, rfl⟩ := List.mem_map.1 hy
    exact killT_live hk
  | _ => simp [killSite] at h
theorem killSite_row {ts : List Nat} {x : Site} : (x ≠ .no → killSite ts x ≠ .no) ∧ ((∃ e sz es, x = .row e sz es) → ∃ e sz es, killSite ts x = .row e sz es) := by
  cases x <;> simp [killSite]
def ssOk (ts : List Nat) (ss : List (Nat × Site)) : List (Nat × Site) → Bool
  | [] => true
  | (_, .tbox cs) :: xs => (cs.all fun x => match x with | .rs k => !memN k ts || (lookN k ss).isSome | .own k _ _ _ => !memN k ts || (lookN k ss).isSome | .ref k _ => !memN k ts || (lookN k ss).isSome | _ => true) && ssOk ts ss xs
  | _ :: xs => ssOk ts ss xs
theorem ssOk_spec {ts : List Nat} {ss : List (Nat × Site)} : ∀ {l : List (Nat × Site)}, ssOk ts ss l = true → ∀ k cs, (k, Site.tbox cs) ∈ l → ∀ y ∈ cs, ∀ j, (y = .rs j ∨ (∃ o, y = .ref j o) ∨ ∃ r f g, y = .own j r f g) → memN j ts = false ∨ ∃ x, lookN j ss = some x
  | [], _, k, cs, h => by cases h
  | (q, x) :: l, h, k, cs, hm => by
    intro y hy j hj
    have hl : ssOk ts ss l = true := by
      cases x <;> simp only [ssOk, Bool.and_eq_true] at h <;> first | exact h | exact h.2
    rcases List.mem_cons.1 hm with e | hm
    · cases e
      simp only [ssOk, Bool.and_eq_true] at h
      have h1 := List.all_eq_true.1 h.1 y hy
      have key : (!memN j ts || (lookN j ss).isSome) = true := by rcases hj with rfl | ⟨o, rfl⟩ | ⟨_, _, _, rfl⟩ <;> exact h1
      rw [Bool.or_eq_true] at key
      rcases key with key | key
      · exact .inl (by simpa using key)
      · exact .inr (Option.isSome_iff_exists.1 key)
    · exact ssOk_spec hl k cs hm y hy j hj
theorem memN_all {p : Nat → Bool} {k : Nat} : ∀ {ts : List Nat}, memN k ts = true → ts.all p = true → p k = true
  | [], h, _ => by cases h
  | x :: xs, h, ha => by
    simp only [memN, Bool.or_eq_true] at h
    simp only [List.all_cons, Bool.and_eq_true] at ha
    rcases h with h | h
    · rw [Nat.eq_of_beq_eq_true h]; exact ha.1
    · exact memN_all h ha.2
def headBlk (ts : List Nat) (ss : List (Nat × Site)) (blk : Nat → Option Nat) : Nat → Option Nat := fun k => match lookN k ss with | some _ => blk k | none => bif memN k ts then none else blk k
theorem hold_headW {ts ms : List Nat} {s s0 : St} {sl : List (Nat × T)} {ss : List (Nat × Site)} (hO : Out ts ms s s0) (h1 : ∀ p ∈ sl, s.t p.1 = p.2) (h2 : ∀ p ∈ ss, s.s p.1 = p.2) (h3 : ∀ k, memN k ms = true → memN k ts = false → ∃ x, lookN k ss = some x)
    (h4 : ∀ p ∈ sl, ∀ k, (p.2 = .rs k ∨ (∃ o, p.2 = .ref k o) ∨ ∃ r f g, p.2 = .own k r f g) → memN k ts = true → ∃ x, lookN k ss = some x) (h5 : ssOk ts ss ss = true) (h6 : ts.all (fun t => Nat.blt t s.n) = true) 
    {a : Act} {w : World} {blk : Nat → Option Nat} {val : Nat → Value} (hh : Hold w0 s a w blk val) : Hold w0 (headSt s0 ts sl ss) a w (headBlk ts ss blk) val := by
  let blk' : Nat → Option Nat := fun k => match lookN k ss with | some _ => blk k | none => bif memN k ts then none else blk k
  have hb : ∀ k b, blk' k = some b → blk k = some b := fun k b h => by
    simp only [blk'] at h
    split at h
    · exact h
    · cases hm : memN k ts <;> rw [hm] at h
      · exact h
      · cases h
  have hok : ∀ b, okOf w0 blk b → okOf w0 blk' b := fun b h => ⟨h.1, fun k hk => h.2 k (hb k b hk)⟩
  have hbk : ∀ k, (memN k ts = false ∨ ∃ x, lookN k ss = some x) → blk' k = blk k := fun k h => by
    simp only [blk']
    rcases h with h | ⟨x, h⟩
    · split
      · rfl
      · rw [h]; rfl
    · rw [h]
  -- what the head says of a site that stays
  have hsn : ∀ k, (memN k ts = false ∨ ∃ x, lookN k ss = some x) → (headSt s0 ts sl ss).s k = s.s k ∨ (lookN k ss = none ∧ (headSt s0 ts sl ss).s k = killSite ts (s.s k)) := fun k h => by
    simp only [headSt]
    cases hl : lookN k ss with
    | some x => exact .inl (h2 _ (lookN_mem hl)).symm
    | none =>
      rcases h with h | ⟨x, h⟩
      · rw [h]
        simp only [cond_false]
        have hms : memN k ms = false := by
          rw [← Bool.not_eq_true]
          intro hm
          obtain ⟨x, hx⟩ := h3 k hm h
          rw [hl] at hx; cases hx
        obtain ⟨ks, hks, e⟩ := hO.s k h hms
        exact .inr ⟨trivial, by rw [e, killSite_sub hks]⟩
      · rw [hl] at h; cases h
  have hrel : ∀ k, (memN k ts = false ∨ ∃ x, lookN k ss = some x) → blk' k = blk k ∧ val k = val k ∧ (s.s k ≠ .no → (headSt s0 ts sl ss).s k ≠ .no) ∧ ((∃ e sz es, s.s k = .row e sz es) → ∃ e sz es, (headSt s0 ts sl ss).s k = .row e sz es) := fun k h => by
    refine ⟨hbk k h, rfl, ?_⟩
    rcases hsn k h with e | ⟨_, e⟩
    · rw [e]; exact ⟨id, id⟩
    · rw [e]; exact killSite_row
  have hT : ∀ x v, RepT w (okOf w0 blk) blk val s.s x v → (∀ k, (x = .rs k ∨ (∃ o, x = .ref k o) ∨ ∃ r f g, x = .own k r f g) → memN k ts = false ∨ ∃ y, lookN k ss = some y) → RepT w (okOf w0 blk') blk' val (headSt s0 ts sl ss).s x v := fun x v hx hk =>
    hx.to (fun b _ h => hok b h) fun k hkx => hrel k (hk k hkx)
  show Hold w0 (headSt s0 ts sl ss) a w blk' val
  refine ⟨hh.ext, hh.defers, by rw [hh.size]; exact hO.n, fun k b h => hh.new k b (hb k b h), fun k k' b h h' => hh.inj k k' b (hb k b h) (hb k' b h'), fun k b h => ?_, fun k => ?_, fun t => ?_⟩
  · obtain ⟨q1, q2, q3⟩ := hh.pin k b h
    have hm : memN k ts = false := by
      rw [← Bool.not_eq_true]
      intro hm
      have := memN_all hm h6
      rw [Nat.blt_eq] at this
      omega
    refine ⟨by rw [hbk k (.inl hm)]; exact q1, ?_, by rw [show (headSt s0 ts sl ss).n = s.n from hO.n.symm]; exact q3⟩
    rcases hsn k (.inl hm) with e | ⟨_, e⟩
    · rw [e]; exact q2
    · rw [e]
      cases hs : s.s k <;> rw [hs] at q2 <;> first | rfl | cases q2
  · have stays : (memN k ts = false ∨ ∃ x, lookN k ss = some x) → SiteIn w (okOf w0 blk') blk' val (headSt s0 ts sl ss).s (blk' k) (val k) ((headSt s0 ts sl ss).s k) := fun h => by
      rw [hbk k h]
      refine (hh.site k).to (fun b _ h => hok b h) ?_ ?_
      · rcases hsn k h with e | ⟨_, e⟩
        · exact .inl e
        · rw [e]; exact killSite_rel ts (s.s k)
      · intro cs hcs y hy j hj
        rcases hsn k h with e | ⟨hl, e⟩
        · cases hl : lookN k ss with
          | some x =>
            have hx : (headSt s0 ts sl ss).s k = x := by simp only [headSt, hl]
            rw [hcs] at hx
            subst hx
            exact hrel j (ssOk_spec h5 k cs (lookN_mem hl) y hy j hj)
          | none =>
            have hx : (headSt s0 ts sl ss).s k = killSite ts (s0.s k) ∨ memN k ts = true := by
              cases hm : memN k ts with
              | true => exact .inr rfl
              | false => left; simp only [headSt, hl, hm, cond_false]
            rcases hx with hx | hx
            · exact hrel j (.inl (killSite_live (hx.symm.trans hcs) y hy j hj))
            · rcases h with h | ⟨x, h⟩
              · rw [hx] at h; cases h
              · rw [hl] at h; cases h
        · exact hrel j (.inl (killSite_live (e.symm.trans hcs) y hy j hj))
    cases hl : lookN k ss with
    | some x => exact stays (.inr ⟨x, hl⟩)
    | none =>
      cases hm : memN k ts with
      | false => exact stays (.inl hm)
      | true =>
        have e1 : blk' k = none := by simp only [blk', hl, hm, cond_true]
        have e2 : (headSt s0 ts sl ss).s k = .no := by simp only [headSt, hl, hm, cond_true]
        rw [e1, e2]; rfl
  · show RepT w _ _ _ _ (match lookN t sl with | some x => x | none => bif memN t ts then .dead else killT ts (s0.t t)) _
    cases hl : lookN t sl with
    | some x =>
      simp only
      have : s.t t = x := h1 _ (lookN_mem hl)
      refine hT x _ (by rw [← this]; exact hh.tmp t) fun k hk => ?_
      cases hm : memN k ts with
      | false => exact .inl rfl
      | true => exact .inr (h4 _ (lookN_mem hl) k hk hm)
    | none =>
      simp only
      cases hm : memN t ts with
      | true => simp only [cond_true]; trivial
      | false =>
        simp only [cond_false]
        have ht0 := hh.tmp t
        have ht : RepT w (okOf w0 blk) blk val s.s (killT ts (s0.t t)) (a.tmps.getD t undef) := by
          obtain ⟨ks, hks, e⟩ := hO.t t hm
          rw [e] at ht0
          rcases killT_or ts (killT ks (s0.t t)) with e' | e'
          · rw [killT_sub hks] at e'; rw [e']; exact ht0
          · rw [killT_sub hks] at e'; rw [e']; trivial
        exact hT _ _ ht fun k hk => .inl (killT_live hk)
theorem le_headW {ts ms : List Nat} {s s0 : St} {sl : List (Nat × T)} {ss : List (Nat × Site)} (hO : Out ts ms s s0) (h1 : ∀ p ∈ sl, s.t p.1 = p.2) (h2 : ∀ p ∈ ss, s.s p.1 = p.2) (h3 : ∀ k, memN k ms = true → memN k ts = false → ∃ x, lookN k ss = some x)
    (h4 : ∀ p ∈ sl, ∀ k, (p.2 = .rs k ∨ (∃ o, p.2 = .ref k o) ∨ ∃ r f g, p.2 = .own k r f g) → memN k ts = true → ∃ x, lookN k ss = some x) (h5 : ssOk ts ss ss = true) (h6 : ts.all (fun t => Nat.blt t s.n) = true) : Le w0 s (headSt s0 ts sl ss) := fun a w ⟨blk, val, hh⟩ => ⟨_, _, hold_headW hO h1 h2 h3 h4 h5 h6 hh⟩


theorem msOk_spec {ts : List Nat} {ss : List (Nat × Site)} : ∀ {ms : List Nat}, msOk ts ss ms = true → ∀ k, memN k ms = true → memN k ts = false → ∃ x, lookN k ss = some x
  | [], _, k, h, _ => by cases h
  | m :: ms, h, k, hk, ht => by
    simp only [msOk, Bool.and_eq_true] at h
    simp only [memN, Bool.or_eq_true] at hk
    rcases hk with hk | hk
    · have := Nat.eq_of_beq_eq_true hk
      subst this
      rw [ht, Bool.false_or] at h
      exact Option.isSome_iff_exists.1 h.1
    · exact msOk_spec h.2 k hk ht
theorem slOk_spec {ts : List Nat} {ss : List (Nat × Site)} : ∀ {sl : List (Nat × T)}, slOk ts ss sl = true → ∀ p ∈ sl, ∀ k, (p.2 = .rs k ∨ (∃ o, p.2 = .ref k o) ∨ ∃ r f g, p.2 = .own k r f g) → memN k ts = true → ∃ x, lookN k ss = some x
  | [], _, p, h => by cases h
  | (j, x) :: sl, h, p, hp => by
    simp only [slOk, Bool.and_eq_true] at h
    intro k hk ht
    rcases List.mem_cons.1 hp with rfl | hp
    · rcases hk with e | ⟨o, e⟩ | ⟨_, _, _, e⟩
      · simp only at e; subst e
        simp only [ht, Bool.not_true, Bool.false_or] at h
        exact Option.isSome_iff_exists.1 h.1
      · simp only at e; subst e
        simp only [ht, Bool.not_true, Bool.false_or] at h
        exact Option.isSome_iff_exists.1 h.1
      · simp only at e; subst e
        simp only [ht, Bool.not_true, Bool.false_or] at h
        exact Option.isSome_iff_exists.1 h.1
    · exact slOk_spec h.2 p hp k hk ht
theorem le_head {ts ms : List Nat} {s s0 : St} {sl : List (Nat × T)} {ss : List (Nat × Site)} (hO : Out ts ms s s0) (h1 : AllT s sl) (h2 : AllS s ss) (h3 : msOk ts ss ms = true) (h4 : slOk ts ss sl = true) (h5 : ssOk ts ss ss = true) (h6 : ts.all (fun t => Nat.blt t s.n) = true) : Le w0 s (headSt s0 ts sl ss) :=
  le_headW hO h1.mem h2.mem (msOk_spec h3) (slOk_spec h4) h5 h6
theorem awp_loopH {c : Code} {R : Exit → St → Prop} {st : St} {α : Type} (ts ms : List Nat) (sl : α → List (Nat × T)) (ss : α → List (Nat × Site)) (I : α → Prop) (μ : α → Nat) (x0 : α) (h0 : I x0)
    (hs : Le w0 st (headSt st ts (sl x0) (ss x0)))
    (hr : ∀ x, I x → Awp P w0 c (thenR (fun st' => ∃ x', I x' ∧ μ x' < μ x ∧ Le w0 st' (headSt st ts (sl x') (ss x'))) R) (headSt st ts (sl x) (ss x))) : Awp P w0 (.loop c) R st := by
  intro F m hF a w hH b k cs hro hb hrm
  have key : ∀ (j : Nat) (x : α), μ x = j → I x → ∀ a w, Holds w0 (headSt st ts (sl x) (ss x)) a w →
      ∃ e a' w', Post w0 R e a' w' ∧ ArrivesIn (Machine.fenced P F) P (lone (b.atR a (.code c :: .inLoop c :: k)) cs w) b k cs e a' w' := by
    intro j
    induction j using Nat.strongRecOn with
    | _ j ih =>
      intro x hx hI a w hH
      obtain ⟨e, a1, w1, ⟨st', hR, hH'⟩, harr⟩ := hr x hI F m hF a w hH b (.inLoop c :: k) cs hro hb hrm
      cases e with
      | normal =>
        obtain ⟨x', hI', hlt, hle⟩ := hR
        obtain ⟨e2, a2, w2, hq, harr2⟩ := ih (μ x') (by omega) x' rfl hI' a1 w1 (hle a1 w1 hH')
        exact ⟨e2, a2, w2, hq, .of_steps (StepsIn.trans harr (.one (fenced_calm hb hrm rfl) stepR_inLoop)) harr2⟩
      | exit id => exact ⟨_, a1, w1, ⟨st', hR, hH'⟩, .pass (x := .inLoop c) rfl (fun _ _ => .inl (by simp)) harr⟩
      | goto l => exact ⟨_, a1, w1, ⟨st', hR, hH'⟩, .pass (x := .inLoop c) rfl (fun _ _ => .inl (by simp)) harr⟩
      | ret => exact ⟨_, a1, w1, ⟨st', hR, hH'⟩, .pass (x := .inLoop c) rfl (fun _ _ => .inl (by simp)) harr⟩
      | panic ch => exact ⟨_, a1, w1, ⟨st', hR, hH'⟩, .pass (x := .inLoop c) rfl (fun _ _ => .inl (by simp)) harr⟩
      | outgrown => exact ⟨_, a1, w1, ⟨st', hR, hH'⟩, .pass (x := .inLoop c) rfl (fun _ _ => .inl (by simp)) harr⟩
  obtain ⟨e, a', w', hq, harr⟩ := key _ x0 rfl h0 a w (hs a w hH)
  exact ⟨e, a', w', hq, .of_steps (.one (fenced_calm hb hrm rfl) stepR_loop) harr⟩
end
open Go

section
variable {P : Program} {w0 : Cx} {ops : List Oper} {rest : List Oper} {R : Exit → St → Prop} {st : St} {ty : TypeId} {pos : String} {after : Array Edge}

theorem aops_nil (h : R .normal st) : Aops P w0 ops [] R st := fun _ _ _ _ _ hH => ⟨st, h, hH⟩
theorem aops_step {o : Oper} {K : St → Prop} (hg : o.guard = none) (h : ∀ a w, Holds w0 st a w → OW P w0 o a w (fun a' w' => ∃ st', K st' ∧ Holds w0 st' a' w')) (hK : ∀ st', K st' → Aops P w0 ops rest R st') : Aops P w0 ops (o :: rest) R st := by
  intro F m hF a w hH
  unfold wpListIn
  rw [if_pos (by simp [Region.wanted, hg])]
  exact (h a w hH).to hF fun a' w' ⟨st', h1, h2⟩ => hK st' h1 F m hF a' w' h2
theorem aops_q {dst : Option Tmp} {op : Op} {x : T} (hd : (match dst with | none => true | some d => Nat.blt d st.n) = true) (hq : QOp P w0 st.n st.s st.ev ⟨dst, op, ty, pos, after, none⟩ x) (h : Aops P w0 ops rest R (st.put dst x)) :
    Aops P w0 ops (⟨dst, op, ty, pos, after, none⟩ :: rest) R st :=
  aops_step (K := fun s => s = st.put dst x) rfl (fun a w hH => OW.mono (hq st a w hH (Sub.refl _ _) rfl (fun _ => .inr rfl) (fun d hd' => by
    have : dst = some d := hd'
    subst this
    simpa [Nat.blt_eq] using hd)) fun a' w' h' => ⟨_, rfl, h'⟩) (fun _ e => e ▸ h)

theorem put_hold {a : Act} {w : World} {blk : Nat → Option Nat} {val : Nat → Value} {d : Nat} {x : T} {v : Value} (hh : Hold w0 st a w blk val) (hd : d < st.n) (hx : RepT w (okOf w0 blk) blk val st.s x v) : Hold w0 (st.put (some d) x) (a.put (some d) v) w blk val :=
  hh.put (some d) x v (fun _ e => by cases e; exact hd) hx

theorem Hold.newSite {a : Act} {w : World} {blk : Nat → Option Nat} {val : Nat → Value} {k b : Nat} {x : Site} {u : Value} (hh : Hold w0 st a w blk val) (hk : st.s k = .no) (hb : Ours w0 b) (hbw : b < w.heap.size) (hfresh : ∀ j, blk j ≠ some b)
    (hold : ∀ t, RepT w (fun b' => okOf w0 blk b' ∧ b' ≠ b) blk val st.s (st.t t) (a.tmps.getD t undef)) (hsites : ∀ j, SiteIn w (fun b' => okOf w0 blk b' ∧ b' ≠ b) blk val st.s (blk j) (val j) (st.s j))
    (hx : SiteIn w (fun b' => okOf w0 blk b' ∧ b' ≠ b) blk val st.s (some b) u x) (hxl : ∀ cs, x = .tbox cs → ∀ y ∈ cs, ∀ j, (y = .rs j ∨ (∃ o, y = .ref j o) ∨ ∃ r f g, y = .own j r f g) → st.s j ≠ .no) : Hold w0 (st.site k x) a w (fun j => bif Nat.beq j k then some b else blk j) (fun j => bif Nat.beq j k then u else val j) := by
  have hok : ∀ b', b' < w.heap.size → okOf w0 blk b' ∧ b' ≠ b → okOf w0 (fun j => bif Nat.beq j k then some b else blk j) b' := fun b' _ ⟨h1, h2⟩ => ⟨h1.1, fun j hj => by
    cases hjk : Nat.beq j k <;> simp only [hjk, cond_true, cond_false] at hj
    · exact h1.2 j hj
    · cases hj; exact h2 rfl⟩
  have hne : ∀ j, st.s j ≠ .no → Nat.beq j k = false := fun j hj => by
    rw [← Bool.not_eq_true]; intro e; rw [Nat.eq_of_beq_eq_true e] at hj; exact hj hk
  have hrel : ∀ j, st.s j ≠ .no → (bif Nat.beq j k then some b else blk j) = blk j ∧ (bif Nat.beq j k then u else val j) = val j ∧ (st.s j ≠ .no → (st.site k x).s j ≠ .no) ∧ ((∃ e sz es, st.s j = .row e sz es) → ∃ e sz es, (st.site k x).s j = .row e sz es) := fun j hj => by
    simp only [St.site, hne j hj, cond_false]
    exact ⟨trivial, trivial, id, id⟩
  have live : ∀ y v, RepT w (fun b' => okOf w0 blk b' ∧ b' ≠ b) blk val st.s y v → ∀ j, (y = .rs j ∨ (∃ o, y = .ref j o) ∨ ∃ r f g, y = .own j r f g) → st.s j ≠ .no := fun y v hy j hj => by
    rcases hj with rfl | ⟨o, rfl⟩ | ⟨_, _, _, rfl⟩
    · obtain ⟨⟨e, sz, es, q⟩, _⟩ := hy; rw [q]; simp
    · exact hy.1
    · exact hy.1.1.1
  refine ⟨hh.ext, hh.defers, hh.size, fun j c hj => ?_, fun i j c hi hj => ?_, fun j c hj => ?_, fun j => ?_, fun t => ?_⟩
  · cases hjk : Nat.beq j k <;> simp only [hjk, cond_true, cond_false] at hj
    · exact hh.new j c hj
    · cases hj; exact ⟨hb, hbw⟩
  · cases hik : Nat.beq i k <;> cases hjk : Nat.beq j k <;> simp only [hik, hjk, cond_true, cond_false] at hi hj
    · exact hh.inj i j c hi hj
    · cases hj; exact absurd hi (hfresh i)
    · cases hi; exact absurd hj (hfresh j)
    · rw [Nat.eq_of_beq_eq_true hik, Nat.eq_of_beq_eq_true hjk]
  · obtain ⟨q1, q2, q3⟩ := hh.pin j c hj
    have : st.s j ≠ .no := fun e => by rw [e] at q2; cases q2
    simp only [St.site, hne j this, cond_false]
    exact ⟨q1, q2, q3⟩
  · cases hjk : Nat.beq j k
    · simp only [St.site, hjk, cond_false]
      refine (hsites j).to hok (.inl rfl) fun cs hcs y hy i hi => ?_
      have h0 := hsites j
      rw [hcs] at h0
      obtain ⟨_, _, _, _, _, _, h5⟩ := h0
      obtain ⟨q, hq⟩ := List.getElem?_of_mem hy
      obtain ⟨v, _, _, hr⟩ := h5 q y hq
      exact hrel i (live y v hr i hi)
    · simp only [St.site, hjk, cond_true]
      exact hx.to hok (.inl rfl) fun cs hcs y hy i hi => hrel i (hxl cs hcs y hy i hi)
  · exact (hold t).to hok fun j hj => hrel j (live _ _ (hold t) j hj)
theorem RepT.ok' {w : World} {ok ok' : Nat → Prop} {blk : Nat → Option Nat} {val : Nat → Value} {s : Nat → Site} {x : T} {v : Value} (h : RepT w ok blk val s x v) (hok : ∀ b, b < w.heap.size → ok b → ok' b) : RepT w ok' blk val s x v :=
  h.to hok fun _ _ => ⟨rfl, rfl, id, id⟩
theorem SiteIn.okw {w : World} {ok ok' : Nat → Prop} {blk : Nat → Option Nat} {val : Nat → Value} {s : Nat → Site} {b : Option Nat} {u : Value} {x : Site} (h : SiteIn w ok blk val s b u x) (hok : ∀ b, b < w.heap.size → ok b → ok' b) : SiteIn w ok' blk val s b u x :=
  h.to hok (.inl rfl) fun _ _ _ _ _ _ => ⟨rfl, rfl, id, id⟩
theorem Hold.allocSite {a : Act} {w : World} {blk : Nat → Option Nat} {val : Nat → Value} {k : Nat} {x : Site} {u : Value} {o : Obj} (hh : Hold w0 st a w blk val) (hk : st.s k = .no)
    (hx : SiteIn (w.alloc o) (fun b => okOf w0 blk b ∧ b ≠ w.heap.size) blk val st.s (some w.heap.size) u x) (hxl : ∀ cs, x = .tbox cs → ∀ y ∈ cs, ∀ j, (y = .rs j ∨ (∃ o, y = .ref j o) ∨ ∃ r f g, y = .own j r f g) → st.s j ≠ .no := by intro cs h; cases h) :
    Hold w0 (st.site k x) a (w.alloc o) (fun j => bif Nat.beq j k then some w.heap.size else blk j) (fun j => bif Nat.beq j k then u else val j) := by
  have hE : Ext w (w.alloc o) := (Ext.refl w).alloc o
  have h' := hh.ext' hE
  refine h'.newSite hk (.inl hh.ext.size) (by simp) (fun j hj => by have := (hh.new j _ hj).2; omega) (fun t => ?_) (fun j => ?_) hx hxl
  · exact ((hh.tmp t).ok' (ok' := fun b => okOf w0 blk b ∧ b ≠ w.heap.size) fun b hb h => ⟨h, by omega⟩).ext hE
  · exact ((hh.site j).okw (ok' := fun b => okOf w0 blk b ∧ b ≠ w.heap.size) fun b hb h => ⟨h, by omega⟩).ext hE

def constD (v : Value) : List D := v.cells.toList.map .v
def zrB (P : Program) (e : TypeId) (z : Value) : Prop := (P.info? e).bind (·.zero) = some z
theorem run_zero {e : TypeId} {z : Value} (h : zrB P e z) (w : World) : (zeroValue e).run P w = .ok z w := by
  unfold zrB at h
  cases hi : P.info? e with
  | none => simp [hi] at h
  | some i =>
    simp only [hi, Option.bind_some] at h
    simp [zeroValue, my_typeInfo hi, h]
theorem aops_alloc {d : Nat} {e : TypeId} {z : Value} (hz : zrB P e z) (h1 : z.cells.toList.all Value.oneCell' = true) (hd : Nat.blt d st.n = true) (hs : st.s d = .no) (h : Aops P w0 ops rest R ((st.site d (.box (constD z))).put (some d) (.ref d 0))) :
    Aops P w0 ops (⟨some d, .alloc e, ty, pos, after, none⟩ :: rest) R st := by
  refine aops_step (K := fun s => s = (st.site d (.box (constD z))).put (some d) (.ref d 0)) rfl (fun a w ⟨blk, val, hh⟩ => ?_) (fun _ e => e ▸ h)
  refine wp_value (v := .pointer (some ⟨w.heap.size, 0, none⟩)) (w' := w.alloc (.cells z.cells e)) (by simp [execOp, Instr.alloc, run_zero hz, newVar, newRow]) ⟨_, rfl, ?_⟩
  have hH := hh.allocSite (k := d) (x := .box (constD z)) (u := undef) (o := .cells z.cells e) hs ⟨w.heap.size, e, z.cells, rfl, new_block _ _, by simp [constD], fun j x hx => by
      simp only [constD, List.getElem?_map] at hx
      cases hj : z.cells.toList[j]? with
      | none => rw [hj] at hx; cases hx
      | some u => rw [hj] at hx; cases hx; rfl, fun j x hx => by
      simp only [constD, List.getElem?_map] at hx
      cases hj : z.cells.toList[j]? with
      | none => rw [hj] at hx; cases hx
      | some u =>
        rw [hj] at hx; cases hx
        exact ⟨u, by simpa using hj, .v u (List.all_eq_true.1 h1 u (List.mem_of_getElem? hj))⟩⟩
  exact ⟨_, _, put_hold hH (by simpa [Nat.blt_eq, St.site] using hd) ⟨by simp [St.site], w.heap.size, by simp, rfl⟩⟩

theorem setRow_block {w : World} {b b' : Nat} {cs : Array Value} (h : b' ≠ b) : (w.setRow b cs).heap[b']? = w.heap[b']? := by
  simp [World.setRow, Array.getElem?_modify, Ne.symm h]
theorem setRow_same {w : World} {b : Nat} {cs old : Array Value} {e : TypeId} {fr : Nat × Nat} (h : w.heap[b]? = some (.cells old e fr)) : (w.setRow b cs).heap[b]? = some (.cells cs e fr) := by
  simp [World.setRow, Array.getElem?_modify, h]
theorem setRow_size {w : World} {b : Nat} {cs : Array Value} : (w.setRow b cs).heap.size = w.heap.size := by simp [World.setRow]
theorem Hold.setRow {a : Act} {w : World} {blk : Nat → Option Nat} {val : Nat → Value} {k b : Nat} {x : Site} {cs : Array Value} (hh : Hold w0 st a w blk val) (hb : blk k = some b)
    (hx : SiteIn (w.setRow b cs) (okOf w0 blk) blk val st.s (some b) (val k) x) (hrow : ∀ e sz es, st.s k = .row e sz es → ∃ e' sz' es', x = .row e' sz' es') (hno : x ≠ .no) (hvar : (st.s k).isVar = true → x.isVar = true := by intro _; rfl) : Hold w0 (st.site k x) a (w.setRow b cs) blk val := by
  have hbn := hh.new k b hb
  have keep : ∀ {d : D} {v : Value}, Rep w (okOf w0 blk) d v → Rep (w.setRow b cs) (okOf w0 blk) d v := fun h =>
    h.keep (by rw [setRow_size]; exact Nat.le_refl _) (fun b' o hok ho => by rw [setRow_block (fun e => hok.2 k (by rw [e]; exact hb))]; exact ho) fun _ _ h => h
  have keepT : ∀ {y : T} {v : Value}, RepT w (okOf w0 blk) blk val st.s y v → RepT (w.setRow b cs) (okOf w0 blk) blk val st.s y v := fun {y v} h => by
    cases y with
    | d y => exact keep h
    | own k r ds F => exact ⟨h.1, h.2.imp fun _ _ h => keep h⟩
    | _ => exact h
  have hrel : ∀ j, blk j = blk j ∧ val j = val j ∧ (st.s j ≠ .no → (st.site k x).s j ≠ .no) ∧ ((∃ e sz es, st.s j = .row e sz es) → ∃ e sz es, (st.site k x).s j = .row e sz es) := fun j => by
    refine ⟨rfl, rfl, ?_⟩
    simp only [St.site]
    cases hjk : Nat.beq j k
    · exact ⟨id, id⟩
    · rw [Nat.eq_of_beq_eq_true hjk]
      exact ⟨fun _ => hno, fun ⟨e, sz, es, q⟩ => hrow e sz es q⟩
  refine ⟨⟨hh.ext.os, hh.ext.tape, hh.ext.output, by rw [setRow_size]; exact hh.ext.size, fun j hj hm => by rw [setRow_block (fun e => by subst e; rcases hbn.1 with q | q; omega; exact hm q)]; exact hh.ext.block j hj hm⟩, hh.kept fun j _ hn => setRow_block (fun e => hn k (by rw [e]; exact hb)), hh.size, fun j c hj => by rw [setRow_size]; exact hh.new j c hj, hh.inj, fun j c hj => ?_, fun j => ?_, fun t => ?_⟩
  · obtain ⟨q1, q2, q3⟩ := hh.pin j c hj
    refine ⟨q1, ?_, q3⟩
    simp only [St.site]
    cases hjk : Nat.beq j k
    · exact q2
    · rw [Nat.eq_of_beq_eq_true hjk] at q2; exact hvar q2
  · have step : SiteIn (w.setRow b cs) (okOf w0 blk) blk val st.s (blk j) (val j) ((st.site k x).s j) := by
      cases hjk : Nat.beq j k
      · simp only [St.site, hjk, cond_false]
        have hs := hh.site j
        have hne : ∀ c, blk j = some c → c ≠ b := fun c hc e => by
          subst e
          have := hh.inj j k c hc hb
          subst this; simp at hjk
        cases hsj : st.s j with
        | no => rw [hsj] at hs; exact hs
        | box cs' =>
          rw [hsj] at hs
          obtain ⟨c, e, vals, h1, h2, h3, h4, h5⟩ := hs
          exact ⟨c, e, vals, h1, by rw [setRow_block (hne c h1)]; exact h2, h3, h4, fun j d hd => let ⟨v, hv, hr⟩ := h5 j d hd; ⟨v, hv, keep hr⟩⟩
        | tbox cs' =>
          rw [hsj] at hs
          obtain ⟨c, e, vals, h1, h2, h3, h5⟩ := hs
          exact ⟨c, e, vals, h1, by rw [setRow_block (hne c h1)]; exact h2, h3, fun j d hd => let ⟨v, hv, ho, hr⟩ := h5 j d hd; ⟨v, hv, ho, keepT hr⟩⟩
        | mp es c =>
          rw [hsj] at hs
          obtain ⟨c', ms, c0, h1, h2, h3⟩ := hs
          exact ⟨c', ms, c0, h1, by rw [setRow_block (hne c' h1)]; exact h2, h3.imp fun _ _ h => keep h⟩
        | row e sz es =>
          rw [hsj] at hs
          obtain ⟨h1, h2, h3⟩ := hs
          exact ⟨h1, h2, h3.imp id fun ⟨c, vals, cap, k1, k2, k3, k4, k5, k6, k7⟩ => ⟨c, vals, cap, k1, k2, k3, k4, by rw [setRow_block (hne c k1)]; exact k5, k6, fun i x j d hi hj => let ⟨v, hv, hr⟩ := k7 i x j d hi hj; ⟨v, hv, keep hr⟩⟩⟩
      · simp only [St.site, hjk, cond_true]
        rw [Nat.eq_of_beq_eq_true hjk, hb]; exact hx
    exact step.to (fun _ _ h => h) (.inl rfl) fun _ _ _ _ j _ => hrel j
  · exact (keepT (hh.tmp t)).to (fun _ _ h => h) fun j _ => hrel j
end
open Go

section
variable {P : Program} {w0 : Cx} {ops : List Oper} {rest : List Oper} {R : Exit → St → Prop} {st : St} {ty : TypeId} {pos : String} {after : Array Edge}

theorem RepL.mem {w : World} {ok : Nat → Prop} : ∀ {ds : List D} {vs : List Value}, RepL w ok ds vs → (∀ (j : Nat) (x : D), ds[j]? = some x → x.sc = true) → ∀ v ∈ vs, v.oneCell' = true
  | [], [], _, _, v, hv => by cases hv
  | d :: ds, u :: vs, h, hs, v, hv => by
    rcases List.mem_cons.1 hv with rfl | hv
    · exact h.1.one (hs 0 d rfl)
    · exact RepL.mem h.2 (fun j x hx => hs (j + 1) x (by simpa using hx)) v hv
  | [], _ :: _, h, _, _, _ => h.elim
  | _ :: _, [], h, _, _, _ => h.elim
theorem run_storeAt {t : TypeId} {agg : Bool} {m b o : Nat} {v : Value} {cur : Array Value} {e : TypeId} {w : World} (ht : szB P t agg m = true) (hm : v.cells.size = m) (hb : w.heap[b]? = some (.cells cur e (0, 0))) (ho : o + m ≤ cur.size)
    (h1 : ∀ u ∈ v.cells.toList, u.oneCell' = true) : (Instr.storeAt t (.pointer (some ⟨b, o, none⟩)) v).run P w = .ok () (w.setRow b (cur.toList.take o ++ v.cells.toList ++ cur.toList.drop (o + m)).toArray) := by
  have := run_storeCells_at (P := P) b o e v.cells.toList 0 cur w hb (by simp; omega) h1
  simp only [Nat.add_zero, Array.length_toList, hm] at this
  simp [Instr.storeAt, Instr.sureAddr, storeVar, szB_size ht, hm, this]
def setCs (cs : List D) (o : Nat) (xs : List D) : List D := cs.take o ++ xs ++ cs.drop (o + xs.length)
theorem splice_get {α : Type} {l m : List α} {o j : Nat} {x : α} (ho : o + m.length ≤ l.length) (h : (l.take o ++ m ++ l.drop (o + m.length))[j]? = some x) :
    (j < o ∧ l[j]? = some x) ∨ (o ≤ j ∧ j < o + m.length ∧ m[j - o]? = some x) ∨ (o + m.length ≤ j ∧ l[j]? = some x) := by
  have hlen : (l.take o).length = o := by simp; omega
  rcases Nat.lt_or_ge j o with h1 | h1
  · left
    rw [List.append_assoc, List.getElem?_append_left (by omega), List.getElem?_take, if_pos h1] at h
    exact ⟨h1, h⟩
  · right
    rw [List.append_assoc, List.getElem?_append_right (by omega), hlen] at h
    rcases Nat.lt_or_ge j (o + m.length) with h2 | h2
    · left
      rw [List.getElem?_append_left (by omega)] at h
      exact ⟨h1, h2, h⟩
    · right
      rw [List.getElem?_append_right (by omega), List.getElem?_drop, show o + m.length + (j - o - m.length) = j by omega] at h
      exact ⟨h2, h⟩
theorem splice_put {α : Type} {l m : List α} {o j : Nat} {x : α} (ho : o + m.length ≤ l.length) (h : (j < o ∧ l[j]? = some x) ∨ (o ≤ j ∧ j < o + m.length ∧ m[j - o]? = some x) ∨ (o + m.length ≤ j ∧ l[j]? = some x)) :
    (l.take o ++ m ++ l.drop (o + m.length))[j]? = some x := by
  have hlen : (l.take o).length = o := by simp; omega
  rw [List.append_assoc]
  rcases h with ⟨h1, h⟩ | ⟨h1, h2, h⟩ | ⟨h2, h⟩
  · rw [List.getElem?_append_left (by omega), List.getElem?_take, if_pos h1]; exact h
  · rw [List.getElem?_append_right (by omega), hlen, List.getElem?_append_left (by omega)]; exact h
  · rw [List.getElem?_append_right (by omega), hlen, List.getElem?_append_right (by omega), List.getElem?_drop, show o + m.length + (j - o - m.length) = j by omega]; exact h
theorem aops_store {t : TypeId} {y x : Operand} {agg : Bool} {m k o : Nat} {X : D} {cs cs' : List D} (ht : szB P t agg m = true) (hy : st.ev y = .ref k o) (hx : st.ev x = .d X) (hX : X.sc = true ∨ ∃ cs, X = .agg cs) (hm : X.cells.length = m)
    (hk : st.s k = .box cs) (ho : o + m ≤ cs.length) (hcs : setCs cs o X.cells = cs') (h : Aops P w0 ops rest R (st.site k (.box cs'))) :
    Aops P w0 ops (⟨none, .store t y x, ty, pos, after, none⟩ :: rest) R st := by
  subst hcs
  refine aops_step (K := fun s => s = st.site k (.box (setCs cs o X.cells))) rfl (fun a w ⟨blk, val, hh⟩ => ?_) (fun _ e => e ▸ h)
  have h1 := hh.ev y
  rw [hy] at h1
  obtain ⟨_, b, hb, hv⟩ := h1
  have hr : Rep w (okOf w0 blk) X (a.eval x) := by have := hh.ev x; rw [hx] at this; exact this
  obtain ⟨hL, hs⟩ := cells_inv hr hX
  have hsite := hh.site k
  rw [hk] at hsite
  obtain ⟨b', e, vals, hb', hheap, hsz, hsc, hc⟩ := hsite
  rw [hb] at hb'; cases hb'
  have hcl : (a.eval x).cells.size = m := by rw [← hm, ← hL.length, Array.length_toList]
  have hrun := run_storeAt (P := P) (o := o) ht hcl hheap (by omega) (hL.mem hs)
  refine ow_of_wp (fun c hc => by cases hc) ?_
  unfold Oper.wp
  rw [show (execOp a.eval ⟨none, .store t y x, ty, pos, after, none⟩).run P w = .ok .skip (w.setRow b (vals.toList.take o ++ (a.eval x).cells.toList ++ vals.toList.drop (o + m)).toArray) by simp [execOp, hv, hrun]]
  refine ⟨_, rfl, blk, val, hh.setRow hb ?_ (fun e sz es he => by rw [hk] at he; cases he) (by simp)⟩
  have hvl : vals.toList.length = cs.length := by simpa using hsz
  have hlc : (a.eval x).cells.toList.length = X.cells.length := hL.length
  refine ⟨b, e, _, rfl, setRow_same hheap, ?_, ?_, ?_⟩
  · simp [setCs]; omega
  · intro j d hd
    rcases splice_get (by omega) hd with ⟨_, h⟩ | ⟨_, _, h⟩ | ⟨_, h⟩
    · exact hsc j d h
    · exact hs _ d h
    · exact hsc j d h
  · intro j d hd
    have keep : ∀ {d : D} {v : Value}, Rep w (okOf w0 blk) d v → Rep (w.setRow b (vals.toList.take o ++ (a.eval x).cells.toList ++ vals.toList.drop (o + m)).toArray) (okOf w0 blk) d v := fun h =>
      h.keep (by rw [setRow_size]; exact Nat.le_refl _) (fun b' o hok ho => by rw [setRow_block (fun e => hok.2 k (by rw [e]; exact hb))]; exact ho) fun _ _ h => h
    have hm' : m = (a.eval x).cells.toList.length := by omega
    rcases splice_get (by omega) hd with ⟨h1, h⟩ | ⟨h1, h2, h⟩ | ⟨h1, h⟩
    · obtain ⟨v, hv, hr⟩ := hc j d h
      refine ⟨v, ?_, keep hr⟩
      rw [hm', List.getElem?_toArray]
      exact splice_put (by omega) (.inl ⟨h1, by simpa using hv⟩)
    · obtain ⟨v, hv, hr⟩ := hL.at_ h
      refine ⟨v, ?_, keep hr⟩
      rw [hm', List.getElem?_toArray]
      exact splice_put (by omega) (.inr (.inl ⟨h1, by omega, hv⟩))
    · obtain ⟨v, hv, hr⟩ := hc j d h
      refine ⟨v, ?_, keep hr⟩
      rw [hm', List.getElem?_toArray]
      exact splice_put (by omega) (.inr (.inr ⟨by omega, by simpa using hv⟩))

inductive RetD (P : Program) (st : St) : ResultVar → D → Prop
  | tmp {t : Tmp} {d : D} (h : AsD st.s (st.t t) d) : RetD P st (.tmp t) d
  | cellA {t : Tmp} {ty m k : Nat} {cs : List D} (h : st.t t = .ref k 0) (hk : st.s k = .box cs) (hs : szB P ty true m = true) (hl : cs.length = m) : RetD P st (.cell t ty) (.agg cs)
  | cellT {t : Tmp} {ty m k : Nat} {cs : List T} {ds : List D} (h : st.t t = .ref k 0) (hk : st.s k = .tbox cs) (hc : AsL st.s cs ds) (hs : szB P ty true m = true) (hl : ds.length = m) : RetD P st (.cell t ty) (.agg ds)
  | cell1 {t : Tmp} {ty m k : Nat} {d : D} (h : st.t t = .ref k 0) (hk : st.s k = .box [d]) (hs : szB P ty false m = true) : RetD P st (.cell t ty) d
inductive RetDs (P : Program) (st : St) : List ResultVar → List D → Prop
  | nil : RetDs P st [] []
  | cons {r : ResultVar} {rs : List ResultVar} {d : D} {ds : List D} (h : RetD P st r d) (hs : RetDs P st rs ds) : RetDs P st (r :: rs) (d :: ds)
def retD : List D → D
  | [d] => d
  | ds => .tup ds
def endR (P : Program) (rs : List ResultVar) (r : D) : Exit → St → Prop
  | .ret, st | .normal, st => ∃ ds, RetDs P st rs ds ∧ r = retD ds
  | _, _ => False

def readVar (tmps : Array Value) : ResultVar → Sem Value
  | .tmp t => pure (tmps.getD t undef)
  | .cell a t => do loadVar t (← asAddr (tmps.getD a undef))
theorem run_loadBlock {b : Nat} {cs : Array Value} {e : TypeId} {w : World} (h : w.heap[b]? = some (.cells cs e (0, 0))) : (loadCells ⟨b, 0, none⟩ cs.size).run P w = .ok cs w := by
  have := run_loadCells_list (P := P) w ⟨b, 0, none⟩ cs.toList (fun j v hv => by rw [addr_add, cell_of_block h, Nat.zero_add]; simpa using hv)
  simpa using this
theorem ret_one {a : Act} {w : World} {blk : Nat → Option Nat} {val : Nat → Value} {r : ResultVar} {d : D} (hh : Hold w0 st a w blk val) (h : RetD P st r d) : ∃ v, (readVar a.tmps r).run P w = .ok v w ∧ Rep w (fun b => w0.ok b ∨ Ours w0 b) d v := by
  cases h with
  | tmp h =>
    rename_i t
    exact ⟨_, rfl, Rep.as' (hh.tmp t) hh.site h (fun b hb => hb.1.imp id .inl) (fun k b hb => .inr (hh.new k b hb).1)⟩
  | cellA h hk hs hl =>
    rename_i t ty m k cs
    have h1 := hh.tmp t
    rw [h] at h1
    obtain ⟨_, b, hb, hv⟩ := h1
    have h2 := hh.site k
    rw [hk] at h2
    obtain ⟨b', e, vals, hb', hheap, hsz, hsc, hc⟩ := h2
    rw [hb] at hb'; cases hb'
    have hld := run_loadBlock (P := P) hheap
    rw [hsz, hl] at hld
    refine ⟨.agg vals, ?_, ?_⟩
    · simp only [readVar, Sem.run_bind, hv, asAddr, Sem.run_pure, Result.andThen_ok, loadVar, szB_agg hs, if_true, szB_size hs, hld]
    · have := Rep.agg (w := w) (ok := fun b => w0.ok b ∨ Ours w0 b) cs vals.toList (by simpa using hsz) hsc (fun j d v hd hv => by
        obtain ⟨u, hu, hr⟩ := hc j d hd
        have : u = v := by have h3 : vals.toList[j]? = some u := by simpa using hu
                           rw [h3] at hv; exact Option.some.inj hv
        subst this
        exact hr.ok fun b _ hb => hb.1.imp id .inl)
      simpa using this
  | cellT h hk hcs hs hl =>
    rename_i t ty m k cs ds
    have h1 := hh.tmp t
    rw [h] at h1
    obtain ⟨_, b, hb, hv⟩ := h1
    have h2 := hh.site k
    rw [hk] at h2
    obtain ⟨b', e, vals, hb', hheap, hsz, hc⟩ := h2
    rw [hb] at hb'; cases hb'
    obtain ⟨hcl, hcd⟩ := hcs.at_
    have hld := run_loadBlock (P := P) hheap
    rw [hsz, hcl, hl] at hld
    refine ⟨.agg vals, ?_, ?_⟩
    · simp only [readVar, Sem.run_bind, hv, asAddr, Sem.run_pure, Result.andThen_ok, loadVar, szB_agg hs, if_true, szB_size hs, hld]
    · have := Rep.agg (w := w) (ok := fun b => w0.ok b ∨ Ours w0 b) ds vals.toList (by simp; omega) (fun j d hd => by obtain ⟨x, _, h⟩ := hcd j d hd; exact h.sc) (fun j d v hd hv => by
        obtain ⟨x, hx, hxd⟩ := hcd j d hd
        obtain ⟨u, hu, _, hr⟩ := hc j x hx
        have : u = v := by have h3 : vals.toList[j]? = some u := by simpa using hu
                           rw [h3] at hv; exact Option.some.inj hv
        subst this
        exact Rep.asC hr hh.site hxd (fun b hb => hb.1.imp id .inl) (fun k b hb => .inr (hh.new k b hb).1))
      simpa using this
  | cell1 h hk hs =>
    rename_i t ty m k
    have h1 := hh.tmp t
    rw [h] at h1
    obtain ⟨_, b, hb, hv⟩ := h1
    have h2 := hh.site k
    rw [hk] at h2
    obtain ⟨b', e, vals, hb', hheap, hsz, hsc, hc⟩ := h2
    rw [hb] at hb'; cases hb'
    obtain ⟨v, hv0, hr⟩ := hc 0 d rfl
    refine ⟨v, ?_, hr.ok fun b _ hb => hb.1.imp id .inl⟩
    have hcell : w.cell? ⟨b, 0, none⟩ = some v := by rw [cell_of_block hheap]; exact hv0
    simp only [readVar, Sem.run_bind, hv, asAddr, Sem.run_pure, Result.andThen_ok, loadVar, szB_agg hs]
    simp [hcell]
theorem ret_many {a : Act} {w : World} {blk : Nat → Option Nat} {val : Nat → Value} (hh : Hold w0 st a w blk val) : ∀ {rs : List ResultVar} {ds : List D}, RetDs P st rs ds →
    ∃ vs : List Value, (rs.mapM (readVar a.tmps)).run P w = .ok vs w ∧ RepL w (fun b => w0.ok b ∨ Ours w0 b) ds vs
  | _, _, .nil => ⟨[], rfl, trivial⟩
  | _, _, .cons h hs => by
    obtain ⟨v, h1, h2⟩ := ret_one hh h
    obtain ⟨vs, h3, h4⟩ := ret_many hh hs
    refine ⟨v :: vs, ?_, h2, h4⟩
    rw [List.mapM_cons]
    simp [h1, h3]
theorem run_results {fn : Func} {a : Act} {w : World} {blk : Nat → Option Nat} {val : Nat → Value} {rs : List ResultVar} {ds : List D} (hh : Hold w0 st a w blk val) (hr : fn.results = rs.toArray) (h : RetDs P st rs ds) :
    ∃ v, (results fn a.tmps).run P w = .ok v w ∧ Rep w (fun b => w0.ok b ∨ Ours w0 b) (retD ds) v := by
  obtain ⟨vs, h1, h2⟩ := ret_many hh h
  have hm : (fn.results.mapM (readVar a.tmps)).run P w = .ok vs.toArray w := by
    rw [hr, List.mapM_toArray]
    simp [h1]
  have hres : (results fn a.tmps).run P w = .ok (if h : vs.toArray.size = 1 then vs.toArray[0] else .tuple vs.toArray) w := by
    have : results fn a.tmps = (do let vs ← fn.results.mapM (readVar a.tmps); pure (if h : vs.size = 1 then vs[0] else .tuple vs)) := by
      unfold results readVar
      rfl
    rw [this]
    simp only [Sem.run_bind, hm, Result.andThen_ok, Sem.run_pure]
  refine ⟨_, hres, ?_⟩
  match ds, vs, h2 with
  | [], [], _ => simp [retD]; exact Rep.tup [] [] rfl (fun j d v h => by simp at h)
  | [d], [v], h2 => simpa [retD] using h2.1
  | d :: d' :: ds, v :: v' :: vs, h2 =>
    simp [retD]
    exact Rep.tup _ (v :: v' :: vs) (h2.length) fun j d v h1 h3 => h2.get j d v h1 h3

def argT : List D → Nat → T
  | [], _ => .un
  | d :: ds, k => match k with
    | 0 => .d d
    | k + 1 => argT ds k
def startSt (n : Nat) (args : List D) : St := { n := n, t := argT args, s := fun _ => .no }
theorem argT_rep {w : World} {ok : Nat → Prop} {blk : Nat → Option Nat} {val : Nat → Value} {s : Nat → Site} (m : Nat) : ∀ {ds : List D} {vs : List Value}, RepL w ok ds vs → ∀ k, RepT w ok blk val s (argT ds k) ((vs ++ List.replicate m undef).getD k undef)
  | [], [], _, k => by
    show _ = _
    rw [List.nil_append, List.getD_eq_getElem?_getD, List.getElem?_replicate]
    split <;> rfl
  | d :: ds, v :: vs, h, 0 => h.1
  | d :: ds, v :: vs, h, k + 1 => by
    have := argT_rep (blk := blk) (val := val) (s := s) m h.2 k
    simpa [argT] using this
  | [], _ :: _, h, _ => h.elim
  | _ :: _, [], h, _ => h.elim
def shut : List Nat → World → World
  | [], w => w
  | b :: ms, w => shut ms (w.putObj b (.deferred none))
theorem mark_other {ms : List Nat} {b c : Nat} {w : World} {o o' : Obj} (h1 : b ∉ ms) (hc : c ∈ ms) (h : w.heap[c]? = some o) : (w.putObj b o').heap[c]? = some o := by
  have hne : c ≠ b := fun e => h1 (by rw [← e]; exact hc)
  rw [World.putObj_heap_other hne]; exact h
theorem shut_leaves {F : Fence} {m : Nat} {fn : Func} {tmps : Array Value} {Q : Ending → World → Prop} : ∀ (ms : List Nat) (w : World), ms.Nodup → (∀ b ∈ ms, w.heap[b]? = some (.deferred (some []))) →
    (∃ v, (results fn tmps).run P (shut ms w) = .ok v (shut ms w) ∧ Q (.returned v) (shut ms w)) → LeavesInM F m P fn tmps Q (ms.map (fun b => { target := .collected b, args := #[] })) .returning w
  | [], _, _, _, h => h
  | b :: ms, w, hn, hb, h => by
    obtain ⟨h1, h2⟩ := List.nodup_cons.1 hn
    exact ⟨by simp, .inl ⟨b, w.putObj b (.deferred none), rfl, run_takeDeferred (hb b (by simp)), shut_leaves ms _ h2 (fun c hc => mark_other h1 hc (hb c (by simp [hc]))) h⟩⟩
theorem shut_ck : ∀ (ms : List Nat) (w : World), ms.Nodup → (∀ b ∈ ms, w.heap[b]? = some (.deferred (some []))) → CK w (shut ms w) ∧ (shut ms w).heap.size = w.heap.size ∧ (shut ms w).os = w.os ∧ (shut ms w).tape = w.tape ∧ (shut ms w).output = w.output ∧ ∀ k, k ∉ ms → (shut ms w).heap[k]? = w.heap[k]?
  | [], w, _, _ => ⟨⟨Nat.le_refl _, fun _ _ _ _ h => h, fun _ _ _ h => h⟩, rfl, rfl, rfl, rfl, fun _ _ => rfl⟩
  | b :: ms, w, hn, hb => by
    obtain ⟨h1, h2⟩ := List.nodup_cons.1 hn
    obtain ⟨⟨a1, a2, a8⟩, a3, a4, a5, a6, a7⟩ := shut_ck ms (w.putObj b (.deferred none)) h2 (fun c hc => mark_other h1 hc (hb c (by simp [hc])))
    rw [World.putObj_size] at a1 a3
    refine ⟨⟨a1, fun c vals e z hc => a2 c vals e z ?_, fun c es z hc => a8 c es z ?_⟩, a3, a4, a5, a6, fun k hk => ?_⟩
    · rw [World.putObj_heap_other (fun e' => ?_)]
      · exact hc
      · subst e'; rw [hb c (by simp)] at hc; cases hc
    · rw [World.putObj_heap_other (fun e' => ?_)]
      · exact hc
      · subst e'; rw [hb c (by simp)] at hc; cases hc
    · simp only [List.mem_cons, not_or] at hk
      exact (a7 k hk.2).trans (World.putObj_heap_other hk.1)
theorem Holds.shut {st : St} {a : Act} {w : World} (h : Holds w0 st a w) (hf : w0.fix = fun _ => none) : ∃ ms : List Nat, a.defers = ms.map (fun b => { target := .collected b, args := #[] }) ∧ ms.Nodup ∧ (∀ b ∈ ms, w.heap[b]? = some (.deferred (some []))) ∧
    Holds w0 st { a with defers := [] } (shut ms w) := by
  obtain ⟨blk, val, hh⟩ := h
  obtain ⟨ms, h1, h2, h3⟩ := hh.defers.marks
  have h4 := fun b hb => (h3 b hb).2
  obtain ⟨a1, a2, a3, a4, a5, a6⟩ := shut_ck ms w h2 h4
  refine ⟨ms, h1, h2, h4, blk, val, ⟨a3.trans hh.ext.os, a4.trans hh.ext.tape, a5.trans hh.ext.output, Nat.le_trans hh.ext.size a1.size, fun k hk hm => ?_⟩, Kept.nil rfl hf, hh.size, fun s b hb => ⟨(hh.new s b hb).1, by rw [a2]; exact (hh.new s b hb).2⟩, hh.inj, hh.pin, fun s => (hh.site s).keepC a1, fun t => (hh.tmp t).keepC a1⟩
  rw [a6 k fun hk' => by
    rcases (h3 k hk').1 with q | q
    · omega
    · exact hm q]
  exact hh.ext.block k hk hm
theorem pcg_of_awpN {G : World → Prop} (hk : GKeep G) {f : FuncId} {fn : Func} {c : Code} {n : Nat} {args : List D} {r : D} {rs : List ResultVar} (hf : P.funcs[f]? = some fn) (hb : fn.body = some c) (hn : fn.ntmps = n) (hrs : fn.results = rs.toArray) (hl : args.length ≤ n)
    (h : ∀ w0 : Cx, (∀ b, w0.mine b → w0.ok b) → w0.rnd = none → (∀ k, w0.pin k = none) → (∀ w, ExtM w0 w → G w) → Awp P w0 c (endR P rs r) (startSt n args)) : PCG P G f args r := by
  intro w ok vs hg hL
  refine (callsIn_wide (n := 1)).1 (callsIn_of_wp_marks hf hb trivial ?_ rfl)
  have h0 : Hold ⟨w, ok, fun _ => False, fun _ => none, fun _ => none, none⟩ (startSt n args) { tmps := vs.toArray ++ Array.replicate (fn.ntmps - vs.toArray.size) undef, defers := [] } w (fun _ => none) (fun _ => undef) := by
    refine ⟨⟨rfl, rfl, rfl, Nat.le_refl _, fun _ _ _ => rfl⟩, Kept.nil rfl rfl, ?_, fun s b h => by simp at h, fun s s' b h => by simp at h, (fun k b h => by cases h), fun s => rfl, fun t => ?_⟩
    · have := hL.length
      simp [startSt, hn]; omega
    · have := argT_rep (blk := fun _ => none) (val := fun _ => undef) (s := fun _ => Site.no) (fn.ntmps - vs.toArray.size) (RepL.of (ok := okOf ⟨w, ok, fun _ => False, fun _ => none, fun _ => none, none⟩ fun _ => none) hL.length fun j d v h1 h2 => (hL.get j d v h1 h2).ok fun b _ hb => ⟨.inl hb, fun s h => by cases h⟩) t
      have e : (vs.toArray ++ Array.replicate (fn.ntmps - vs.toArray.size) undef) = (vs ++ List.replicate (fn.ntmps - vs.toArray.size) undef).toArray := by simp
      show RepT _ _ _ _ _ _ ((vs.toArray ++ Array.replicate (fn.ntmps - vs.toArray.size) undef).getD t undef)
      rw [e, Array.getD_eq_getD_getElem?, List.getElem?_toArray, ← List.getD_eq_getElem?_getD]
      exact this
  refine wpIn_mono (h ⟨w, ok, fun _ => False, fun _ => none, fun _ => none, none⟩ (fun _ h => h.elim) rfl (fun _ => rfl) (fun w' hx => hk w w' hg ⟨hx.os, hx.tape, hx.output, hx.size, fun k hk => hx.block k hk (fun h => h)⟩) Fence.wide 1 ⟨.inl rfl, rfl⟩ _ w ⟨_, _, h0⟩) fun e a w' ⟨st', hR, hH⟩ => ?_
  cases e with
  | normal =>
    obtain ⟨ds, hd, rfl⟩ := hR
    obtain ⟨ms, m1, m2, m3, blk, val, hh⟩ := hH.shut rfl
    obtain ⟨v, h1, h2⟩ := run_results hh hrs hd
    show LeavesInM _ _ _ _ _ _ _ _ _
    rw [m1]
    exact shut_leaves ms w' m2 m3 ⟨v, h1, v, rfl, ⟨hh.ext.os, hh.ext.tape, hh.ext.output, hh.ext.size, fun k hk => hh.ext.block k hk (fun h => h)⟩, h2.ok fun b _ hb => hb.imp id fun h => h.resolve_right (fun h => h)⟩
  | ret =>
    obtain ⟨ds, hd, rfl⟩ := hR
    obtain ⟨ms, m1, m2, m3, blk, val, hh⟩ := hH.shut rfl
    obtain ⟨v, h1, h2⟩ := run_results hh hrs hd
    show LeavesInM _ _ _ _ _ _ _ _ _
    rw [m1]
    exact shut_leaves ms w' m2 m3 ⟨v, h1, v, rfl, ⟨hh.ext.os, hh.ext.tape, hh.ext.output, hh.ext.size, fun k hk => hh.ext.block k hk (fun h => h)⟩, h2.ok fun b _ hb => hb.imp id fun h => h.resolve_right (fun h => h)⟩
  | exit id => exact hR.elim
  | goto l => exact hR.elim
  | panic c => exact hR.elim
  | outgrown => exact hR.elim
theorem pc_of_awpN {f : FuncId} {fn : Func} {c : Code} {n : Nat} {args : List D} {r : D} {rs : List ResultVar} (hf : P.funcs[f]? = some fn) (hb : fn.body = some c) (hn : fn.ntmps = n) (hrs : fn.results = rs.toArray) (hl : args.length ≤ n)
    (h : ∀ w0 : Cx, (∀ b, w0.mine b → w0.ok b) → w0.rnd = none → (∀ k, w0.pin k = none) → Awp P w0 c (endR P rs r) (startSt n args)) : PC P f args r :=
  fun w ok vs hL => pcg_of_awpN (G := fun _ => True) (fun _ _ _ _ => trivial) hf hb hn hrs hl (fun w0 h1 h2 h3 _ => h w0 h1 h2 h3) w ok vs trivial hL
theorem pc_of_awp {f : FuncId} {fn : Func} {c : Code} {n : Nat} {args : List D} {r : D} {rs : List ResultVar} (hf : P.funcs[f]? = some fn) (hb : fn.body = some c) (hn : fn.ntmps = n) (hrs : fn.results = rs.toArray) (hl : args.length ≤ n)
    (h : ∀ w0 : Cx, Awp P w0 c (endR P rs r) (startSt n args)) : PC P f args r := pc_of_awpN hf hb hn hrs hl fun w0 _ _ _ => h w0
end
open Go

section
variable {P : Program} {w0 : Cx} {st st' : St} {l os : List Oper} {n i : Nat} {e : Nat → T} {K : St → Prop} {dst : Option Tmp} {op : Op} {ty : TypeId} {pos : String} {after : Array Edge}

theorem rg_nil (h : K st') : RegW P w0 st l n [] i e st' K := h
theorem rg_q {x : T} (hq : QOp P w0 st.n st.s (evAt st l n e i ⟨dst, op, ty, pos, after, none⟩ []) ⟨dst, op, ty, pos, after, none⟩ x) (h : RegW P w0 st l n os (i + 1) (upd e i x) (st'.put dst x) K) :
    RegW P w0 st l n (⟨dst, op, ty, pos, after, none⟩ :: os) i e st' K :=
  ⟨x, (fun j b h => by cases h), fun _ => .inl hq, h⟩
theorem rg_g {j : Nat} {b c : Bool} {x : T} {gs : List (Nat × Bool)} (hg : guardsOf l i = gs) (hc : e j = T.bool c) (hq : GH e gs → QOp P w0 st.n st.s (evAt st l n e i ⟨dst, op, ty, pos, after, some (j, b)⟩ gs) ⟨dst, op, ty, pos, after, some (j, b)⟩ x)
    (h : RegW P w0 st l n os (i + 1) (upd e i x) (st'.put dst .dead) K) : RegW P w0 st l n (⟨dst, op, ty, pos, after, some (j, b)⟩ :: os) i e st' K :=
  ⟨x, (fun j' b' h => by cases h; exact ⟨c, hc⟩), (fun hG => .inl (by subst hg; exact hq hG)), h⟩
theorem rg_pick {tc jc : Nat} {a b : Operand} {cb p q : Bool} (hp : prodIdx l n tc = some jc) (ha : afterB ⟨dst, .pick (.tmp tc) a b, ty, pos, after, none⟩ jc = true) (hx : e jc = T.bool cb)
    (hc : evAt st l n e i ⟨dst, .pick (.tmp tc) a b, ty, pos, after, none⟩ [] (.tmp tc) = T.bool cb)
    (h1 : evAt st l n e i ⟨dst, .pick (.tmp tc) a b, ty, pos, after, none⟩ [(jc, true)] a = T.bool p)
    (h2 : evAt st l n e i ⟨dst, .pick (.tmp tc) a b, ty, pos, after, none⟩ [(jc, false)] b = T.bool q)
    (h : RegW P w0 st l n os (i + 1) (upd e i (T.bool (bif cb then p else q))) (st'.put dst (T.bool (bif cb then p else q))) K) : RegW P w0 st l n (⟨dst, .pick (.tmp tc) a b, ty, pos, after, none⟩ :: os) i e st' K :=
  ⟨_, (fun j b h => by cases h), fun _ => .inr ⟨tc, a, b, jc, cb, p, q, rfl, hp, ha, hx, hc, h1, h2, rfl⟩, h⟩
theorem rg_pickg {tc jc j : Nat} {g : Bool} {a b : Operand} {cb p q c : Bool} {gs : List (Nat × Bool)} (hg : guardsOf l i = gs) (hcj : e j = T.bool c) (hp : prodIdx l n tc = some jc) (ha : afterB ⟨dst, .pick (.tmp tc) a b, ty, pos, after, some (j, g)⟩ jc = true) (hx : e jc = T.bool cb)
    (hc : evAt st l n e i ⟨dst, .pick (.tmp tc) a b, ty, pos, after, some (j, g)⟩ gs (.tmp tc) = T.bool cb)
    (h1 : evAt st l n e i ⟨dst, .pick (.tmp tc) a b, ty, pos, after, some (j, g)⟩ ((jc, true) :: gs) a = T.bool p)
    (h2 : evAt st l n e i ⟨dst, .pick (.tmp tc) a b, ty, pos, after, some (j, g)⟩ ((jc, false) :: gs) b = T.bool q)
    (h : RegW P w0 st l n os (i + 1) (upd e i (T.bool (bif cb then p else q))) (st'.put dst .dead) K) : RegW P w0 st l n (⟨dst, .pick (.tmp tc) a b, ty, pos, after, some (j, g)⟩ :: os) i e st' K :=
  ⟨_, (fun j' b' h => by cases h; exact ⟨c, hcj⟩), fun _ => .inr ⟨tc, a, b, jc, cb, p, q, rfl, hp, ha, hx, by subst hg; exact hc, by subst hg; exact h1, by subst hg; exact h2, rfl⟩, h⟩
end
open Go

theorem RepL.take {w : World} {ok : Nat → Prop} : ∀ (m : Nat) {ds : List D} {vs : List Value}, RepL w ok ds vs → RepL w ok (ds.take m) (vs.take m)
  | 0, _, _, _ => by simp [RepL]
  | m + 1, [], [], _ => by simp [RepL]
  | m + 1, _ :: _, _ :: _, h => ⟨h.1, RepL.take m h.2⟩
  | _ + 1, [], _ :: _, h => h.elim
  | _ + 1, _ :: _, [], h => h.elim
theorem RepL.drop {w : World} {ok : Nat → Prop} : ∀ (m : Nat) {ds : List D} {vs : List Value}, RepL w ok ds vs → RepL w ok (ds.drop m) (vs.drop m)
  | 0, _, _, h => h
  | m + 1, [], [], _ => by simp [RepL]
  | m + 1, _ :: _, _ :: _, h => RepL.drop m h.2
  | _ + 1, [], _ :: _, h => h.elim
  | _ + 1, _ :: _, [], h => h.elim
theorem RepL.setCs {w : World} {ok : Nat → Prop} {cs xs : List D} {vs us : List Value} {o : Nat} (h : RepL w ok cs vs) (k : RepL w ok xs us) : RepL w ok (setCs cs o xs) (vs.take o ++ us ++ vs.drop (o + us.length)) := by
  unfold Go.Proofs.YthpggoophcdgnaaDoor.Am.setCs
  rw [k.length]
  exact ((h.take o).append k).append (h.drop _)
def scAll (cs : List D) : Prop := ∀ d ∈ cs, d.sc = true
theorem scAll.setCs {cs xs : List D} {o : Nat} (h : scAll cs) (k : scAll xs) : scAll (setCs cs o xs) := by
  intro d hd
  unfold Go.Proofs.YthpggoophcdgnaaDoor.Am.setCs at hd
  rcases List.mem_append.1 hd with hd | hd
  · rcases List.mem_append.1 hd with hd | hd
    · exact h d (List.mem_of_mem_take hd)
    · exact k d hd
  · exact h d (List.mem_of_mem_drop hd)
theorem fold_splice (off : Nat) : ∀ (vs : List Value) (k : Nat) (cells : Array Value), off + k + vs.length ≤ cells.size →
    ((vs.zipIdx k).foldl (fun cs (x : Value × Nat) => cs.setIfInBounds (off + x.2) x.1) cells).toList = cells.toList.take (off + k) ++ vs ++ cells.toList.drop (off + k + vs.length)
  | [], k, cells, _ => by simp
  | v :: vs, k, cells, h => by
    simp only [List.length_cons] at h
    rw [List.zipIdx_cons, List.foldl_cons, fold_splice off vs (k + 1) _ (by simp; omega)]
    have hk : off + k < cells.toList.length := by simp; omega
    simp only [Array.toList_setIfInBounds]
    rw [show off + (k + 1) = off + k + 1 by omega, List.take_add_one]
    simp only [List.length_cons, List.getElem?_set_self hk, Option.toList_some]
    rw [List.take_set_of_le (Nat.le_refl _), List.drop_set_of_lt (by omega), show off + k + 1 + vs.length = off + k + (vs.length + 1) by omega]
    simp
def fillD (pl : Nat → Option (Nat × Nat)) (cs : List D) : List (Nat × D) → List D
  | [] => cs
  | (i, d) :: ps => match pl i with
    | some (off, _) => fillD pl (setCs cs off d.cells) ps
    | none => []
def fillOk (pl : Nat → Option (Nat × Nat)) (m : Nat) : List (Nat × D) → Prop
  | [] => True
  | (i, d) :: ps => (match pl i with | some (off, sz) => d.cells.length = sz ∧ off + sz ≤ m | none => False) ∧ fillOk pl m ps
inductive PartsD (ev : Operand → T) : List (Nat × Operand) → List (Nat × D) → Prop
  | nil : PartsD ev [] []
  | cons {i : Nat} {y : Operand} {ys : List (Nat × Operand)} {x : D} {xs : List (Nat × D)} (h : ev y = .d x) (hx : x.sc = true ∨ ∃ cs, x = .agg cs) (hs : PartsD ev ys xs) : PartsD ev ((i, y) :: ys) ((i, x) :: xs)
theorem setCs_length {cs xs : List D} {o : Nat} (h : o + xs.length ≤ cs.length) : (setCs cs o xs).length = cs.length := by
  simp [setCs]; omega
section
variable {P : Program} {w0 : Cx} {n : Nat} {s : Nat → Site} {ev : Operand → T} {dst : Option Tmp} {ty : TypeId} {pos : String} {after : Array Edge} {g : Option (Nat × Bool)}

theorem fill_rep {w : World} {ok : Nat → Prop} {blk : Nat → Option Nat} {val : Nat → Value} {a : Act} (hy : ∀ y, RepT w ok blk val s (ev y) (a.eval y)) {pl : Nat → Option (Nat × Nat)} : ∀ {ys : List (Nat × Operand)} {xs : List (Nat × D)} {cs : List D} {cells : Array Value}, PartsD ev ys xs → RepL w ok cs cells.toList → scAll cs → fillOk pl cs.length xs →
    ∃ out, Instr.fill pl cells (ys.map fun (i, y) => (i, a.eval y)) = some out ∧ RepL w ok (fillD pl cs xs) out.toList ∧ scAll (fillD pl cs xs)
  | _, _, cs, cells, .nil, hL, hS, _ => ⟨cells, rfl, hL, hS⟩
  | _, _, cs, cells, .cons (i := i) (y := y) (x := x) h hx hs, hL, hS, hok => by
    obtain ⟨h1, h2⟩ := hok
    cases hp : pl i with
    | none => simp only [hp] at h1
    | some os =>
      obtain ⟨off, sz⟩ := os
      simp only [hp] at h1
      have hr : Rep w ok x (a.eval y) := by have := hy y; rw [h] at this; exact this
      obtain ⟨hc, hcs⟩ := cells_inv hr hx
      have hlen := hc.length
      have hcl := hL.length
      simp only [Array.length_toList] at hlen hcl
      have hsp := fold_splice off (a.eval y).cells.toList 0 cells (by simp; omega)
      simp only [Nat.add_zero, Array.length_toList] at hsp
      have hfold : ((a.eval y).cells.zipIdx.foldl (fun cs (x : Value × Nat) => cs.setIfInBounds (off + x.2) x.1) cells) = (((a.eval y).cells.toList.zipIdx 0).foldl (fun cs (x : Value × Nat) => cs.setIfInBounds (off + x.2) x.1) cells) := by
        rw [← Array.foldl_toList]; simp
      obtain ⟨out, k1, k2, k3⟩ := fill_rep hy (pl := pl) (cs := setCs cs off x.cells) (cells := ((a.eval y).cells.zipIdx.foldl (fun cs (x : Value × Nat) => cs.setIfInBounds (off + x.2) x.1) cells)) hs (by
        rw [hfold, hsp]
        have := hL.setCs (o := off) hc
        simpa using this) (hS.setCs fun d hd => by
          obtain ⟨j, hj⟩ := List.getElem?_of_mem hd
          exact hcs j d hj) (by rw [setCs_length (by omega)]; exact h2)
      refine ⟨out, ?_, by simpa [fillD, hp] using k2, by simpa [fillD, hp] using k3⟩
      simp only [List.map_cons, Instr.fill, hp]
      rw [if_neg (by simp; omega)]
      exact k1

def plB (P : Program) (t : TypeId) (pl : List (Nat × Nat)) : Bool :=
  match P.underlying t with
  | some (.struct fs) => (fs.toList.map fun f => (f.offset, P.cellsOf f.type)) == pl && fs.toList.all fun f => (P.info? f.type).isSome
  | _ => false
theorem run_cellsOf {t : TypeId} (h : (P.info? t).isSome = true) (w : World) : (sizeOf t).run P w = .ok (P.cellsOf t) w := by
  cases hi : P.info? t with
  | none => simp [hi] at h
  | some i => simp [sizeOf, my_typeInfo hi, Program.cellsOf, hi]
theorem run_places (w : World) : ∀ (fs : List Field), (fs.all fun f => (P.info? f.type).isSome) = true → (fs.mapM fun f => Functor.map (Prod.mk f.offset) (sizeOf f.type)).run P w = .ok (fs.map fun f => (f.offset, P.cellsOf f.type)) w
  | [], _ => rfl
  | f :: fs, h => by
    simp only [List.all_cons, Bool.and_eq_true] at h
    rw [List.mapM_cons]
    simp [run_cellsOf h.1, run_places w fs h.2]
theorem constD_rep {w : World} {ok : Nat → Prop} {z : Value} (h : z.cells.toList.all Value.oneCell' = true) : RepL w ok (constD z) z.cells.toList ∧ scAll (constD z) := by
  unfold constD
  generalize z.cells.toList = vs at *
  refine ⟨?_, fun d hd => ?_⟩
  · induction vs with
    | nil => trivial
    | cons v vs ih =>
      simp only [List.all_cons, Bool.and_eq_true] at h
      exact ⟨.v v h.1, ih h.2⟩
  · obtain ⟨v, _, rfl⟩ := List.mem_map.1 hd; rfl
theorem q_build {t : TypeId} {pl : List (Nat × Nat)} {z : Value} {parts : List (Nat × Operand)} {pds : List (Nat × D)} {cs : List D} (hp : plB P t pl = true) (hz : zrB P t z) (h1 : z.cells.toList.all Value.oneCell' = true)
    (hpd : PartsD ev parts pds) (hok : fillOk (pl[·]?) (constD z).length pds) (hcs : fillD (pl[·]?) (constD z) pds = cs) : QOp P w0 n s ev ⟨dst, .build t parts.toArray, ty, pos, after, g⟩ (.d (.agg cs)) :=
  .mk fun a w ok blk val h _ hnew => by
    subst hcs
    obtain ⟨hz1, hz2⟩ := constD_rep (w := w) (ok := ok) h1
    obtain ⟨out, k1, k2, k3⟩ := fill_rep h (pl := (pl[·]?)) (cells := z.cells) hpd hz1 hz2 hok
    refine ⟨.agg out, w, ?_, Ext.refl w, ?_⟩
    · unfold plB at hp
      cases hu : P.underlying t with
      | none => simp [hu] at hp
      | some d =>
        cases d <;> simp only [hu, Bool.false_eq_true] at hp
        rename_i fs
        simp only [Bool.and_eq_true, beq_iff_eq] at hp
        have hm : (fs.mapM fun f => (do pure (f.offset, ← sizeOf f.type) : Sem (Nat × Nat))).run P w = .ok pl.toArray w := by
          rw [← hp.1]
          have := run_places (P := P) w fs.toList hp.2
          have he : (fun f : Field => (do pure (f.offset, ← sizeOf f.type) : Sem (Nat × Nat))) = fun f => Functor.map (Prod.mk f.offset) (sizeOf f.type) := by funext f; rw [← bind_pure_comp]
          rw [he]
          conv => lhs; rw [← Array.toArray_toList (xs := fs)]
          rw [List.mapM_toArray]
          simp [this]
        have hpl : (fun i => (pl.toArray[i]? : Option (Nat × Nat))) = (fun i : Nat => pl[i]?) := by funext i; simp
        simp only [execOp, Instr.build, Sem.run_bind, run_zero hz, Result.andThen_ok, run_underlying hu, hm]
        have : (parts.toArray.map fun (x : Nat × Operand) => (x.1, a.eval x.2)).toList = parts.map fun (i, y) => (i, a.eval y) := by simp
        rw [this]
        simp only [hpl, k1]
        simp
    · have := Rep.agg (w := w) (ok := ok) _ out.toList k2.length (fun j d hd => k3 d (List.mem_of_getElem? hd)) fun j d v h1 h2 => k2.get j d v h1 h2
      show Rep _ _ _ _
      simpa using this

theorem aB {α : Type} (xs : List (List α)) (sz : Nat) (h : ∀ x ∈ xs, x.length = sz) (i j : Nat) (x : List α) (hx : xs[i]? = some x) (hj : j < sz) : xs.flatten[i * sz + j]? = x[j]? := by
  induction xs generalizing i with
  | nil => simp at hx
  | cons y ys ih =>
    have hy := h y (by simp)
    cases i with
    | zero =>
      simp only [List.getElem?_cons_zero, Option.some.injEq] at hx
      subst hx
      rw [List.flatten_cons, Nat.zero_mul, Nat.zero_add, List.getElem?_append_left (by omega)]
    | succ i =>
      rw [List.flatten_cons, List.getElem?_append_right (by rw [hy, Nat.succ_mul]; omega), hy, show (i + 1) * sz + j - sz = i * sz + j by rw [Nat.succ_mul]; omega]
      exact ih (fun x hx => h x (by simp [hx])) i (by simpa using hx)
theorem Rep.slNew {w : World} {ok : Nat → Prop} {sz b : Nat} {es : List (List D)} {out : Array Value} {e : TypeId} (hsz : ∀ x ∈ es, x.length = sz) (hL : RepL w ok es.flatten out.toList) (hS : scAll es.flatten) (hb : w.heap[b]? = some (.cells out e (0, 0))) (hok : ok b) (hmax : es.length ≤ maxLen) :
    Rep w ok (.sl sz es) (.slice (some ⟨b, 0, none⟩) es.length es.length) := by
  have key : ∀ (i : Nat) (x : List D) (j : Nat) (d : D), es[i]? = some x → x[j]? = some d → es.flatten[i * sz + j]? = some d := fun i x j d hi hj => by
    have hxl := hsz x (List.mem_of_getElem? hi)
    have hjl := (List.getElem?_eq_some_iff.1 hj).1
    rw [aB es sz hsz i j x hi (by omega)]; exact hj
  exact .sl sz es b 0 es.length (fun i j => out.getD (i * sz + j) undef) (heap_lt hb) hok (Nat.le_refl _) hmax (fun i x hx => hsz x (List.mem_of_getElem? hx)) (fun i x j d hi hj => hS d (List.mem_of_getElem? (key i x j d hi hj))) (fun i x j d hi hj => by
    obtain ⟨v, hv, _⟩ := hL.at_ (key i x j d hi hj)
    have hv' : out[i * sz + j]? = some v := by simpa using hv
    rw [cell_of_block hb, Nat.zero_add, hv', getD_val hv']) (fun i x j d hi hj => by
    obtain ⟨v, hv, hr⟩ := hL.at_ (key i x j d hi hj)
    have hv' : out[i * sz + j]? = some v := by simpa using hv
    rw [getD_val hv']; exact hr)
theorem fillD_flat {sz : Nat} : ∀ {pds : List (Nat × D)} {k m : Nat} {cs : List D}, (∀ j (p : Nat × D), pds[j]? = some p → p.1 = k + j ∧ p.2.cells.length = sz) → cs.length = m * sz → k + pds.length = m →
    fillD (fun i => some (i * sz, sz)) cs pds = cs.take (k * sz) ++ (pds.map fun p => p.2.cells).flatten
  | [], k, m, cs, _, hl, hk => by
    simp only [List.length_nil, Nat.add_zero] at hk
    subst hk
    simp [fillD, ← hl]
  | (i, d) :: pds, k, m, cs, h, hl, hk => by
    obtain ⟨h1, h2⟩ := h 0 (i, d) rfl
    simp only [Nat.add_zero] at h1 h2
    subst h1
    simp only [List.length_cons] at hk
    have hle : i * sz + d.cells.length ≤ cs.length := by
      rw [hl, h2]
      have : (i + 1) * sz ≤ m * sz := Nat.mul_le_mul_right _ (by omega)
      rw [Nat.succ_mul] at this; exact this
    have ih := fillD_flat (sz := sz) (pds := pds) (k := i + 1) (m := m) (cs := setCs cs (i * sz) d.cells) (fun j p hj => by
      obtain ⟨q1, q2⟩ := h (j + 1) p (by simpa using hj)
      exact ⟨by omega, q2⟩) (by rw [setCs_length hle, hl]) (by omega)
    simp only [fillD, ih, List.map_cons, List.flatten_cons]
    have : (setCs cs (i * sz) d.cells).take ((i + 1) * sz) = cs.take (i * sz) ++ d.cells := by
      unfold setCs
      have hlt : (cs.take (i * sz) ++ d.cells).length = (i + 1) * sz := by rw [List.length_append, List.length_take, h2, Nat.succ_mul]; omega
      rw [← hlt, List.take_left]
    rw [this, List.append_assoc]
def idxOk (sz : Nat) : Nat → List (Nat × D) → Prop
  | _, [] => True
  | k, (i, d) :: ps => i = k ∧ d.cells.length = sz ∧ idxOk sz (k + 1) ps
theorem idxOk.spec {sz : Nat} : ∀ {k : Nat} {pds : List (Nat × D)}, idxOk sz k pds → ∀ j (p : Nat × D), pds[j]? = some p → p.1 = k + j ∧ p.2.cells.length = sz
  | _, [], _, j, p, h => by simp at h
  | k, (i, d) :: ps, hh, 0, p, h => by simp at h; subst h; exact ⟨hh.1, hh.2.1⟩
  | k, (i, d) :: ps, hh, j + 1, p, h => by
    obtain ⟨h1, h2⟩ := idxOk.spec hh.2.2 j p (by simpa using h)
    exact ⟨by omega, h2⟩
theorem q_buildSlice {t : TypeId} {m e sz : Nat} {z : Value} {parts : List (Nat × Operand)} {pds : List (Nat × D)} {es : List (List D)} (ht : slB P t e sz = true) (hz : zrB P e z) (h1 : z.cells.toList.all Value.oneCell' = true) (hzs : z.cells.size = sz) (hs0 : 0 < sz)
    (hpd : PartsD ev parts pds) (hidx' : idxOk sz 0 pds) (hm : pds.length = m) (hsmall : m * sz ≤ 16777216) (hes : (pds.map fun p => p.2.cells) = es) : QOp P w0 n s ev ⟨dst, .buildSlice t m parts.toArray, ty, pos, after, g⟩ (.d (.sl sz es)) :=
  .mk fun a w ok blk val h _ hnew => by
    subst hes
    have hidx : ∀ j (p : Nat × D), pds[j]? = some p → p.1 = j ∧ p.2.cells.length = sz := fun j p h => by simpa using hidx'.spec j p h
    have hzl : z.cells.toList.length = sz := by simpa using hzs
    let zc : Array Value := (Array.range (m * sz)).map (z.cells[· % z.cells.size]!)
    have hzc : RepL w (ok) ((List.range (m * sz)).map fun j => D.v (z.cells[j % z.cells.size]!)) zc.toList ∧ scAll ((List.range (m * sz)).map fun j => D.v (z.cells[j % z.cells.size]!)) := by
      refine ⟨RepL.of (by simp [zc]) fun j d v hd hv => ?_, fun d hd => ?_⟩
      · have hj := (List.getElem?_eq_some_iff.1 hd).1
        simp at hj
        simp [hj] at hd
        simp [zc, hj] at hv
        subst hd; subst hv
        refine .v _ ?_
        have hlt : j % z.cells.size < z.cells.size := Nat.mod_lt _ (by omega)
        have := List.all_eq_true.1 h1 z.cells[j % z.cells.size] (by simp)
        simpa [hlt] using this
      · obtain ⟨j, _, rfl⟩ := List.mem_map.1 hd; rfl
    have hzlen : ((List.range (m * sz)).map fun j => D.v (z.cells[j % z.cells.size]!)).length = m * sz := by simp
    have hfo : ∀ (qs : List (Nat × D)), (∀ p ∈ qs, p.1 < m ∧ p.2.cells.length = sz) → fillOk (fun i => some (i * sz, sz)) (m * sz) qs := by
      intro qs
      induction qs with
      | nil => intro _; trivial
      | cons p qs ih =>
        obtain ⟨i, d⟩ := p
        intro hq
        obtain ⟨q1, q2⟩ := hq (i, d) (by simp)
        refine ⟨⟨q2, ?_⟩, ih fun p hp => hq p (by simp [hp])⟩
        have : (i + 1) * sz ≤ m * sz := Nat.mul_le_mul_right _ q1
        rw [Nat.succ_mul] at this; exact this
    obtain ⟨out, k1, k2, k3⟩ := fill_rep h (pl := fun i => some (i * sz, sz)) (cells := zc) hpd hzc.1 hzc.2 (by
      rw [hzlen]
      refine hfo _ fun p hp => ?_
      obtain ⟨j, hj⟩ := List.getElem?_of_mem hp
      have hjl := (List.getElem?_eq_some_iff.1 hj).1
      obtain ⟨q1, q2⟩ := hidx j p hj
      exact ⟨by omega, q2⟩)
    have hflat := fillD_flat (sz := sz) (pds := pds) (k := 0) (m := m) (cs := (List.range (m * sz)).map fun j => D.v (z.cells[j % z.cells.size]!)) (fun j p hj => by simpa using hidx j p hj) hzlen (by omega)
    rw [Nat.zero_mul, List.take_zero, List.nil_append] at hflat
    rw [hflat] at k2 k3
    have hE : Ext w (w.alloc (.cells out e)) := (Ext.refl w).alloc _
    refine ⟨.slice (some ⟨w.heap.size, 0, none⟩) m m, w.alloc (.cells out e), ?_, hE, ?_⟩
    · obtain ⟨inf, hi, hsi⟩ := slB_info ht
      have hlen : ¬ m * sz > 2 ^ 24 := by omega
      have hparts : (parts.toArray.map fun (x : Nat × Operand) => (x.1, a.eval x.2)).toList = parts.map fun (i, y) => (i, a.eval y) := by simp
      by_cases h0 : m * sz = 0
      · have hz0 : zc = #[] := by simp [zc, h0]
        rw [hz0] at k1
        have hr0 : Array.range 0 = #[] := rfl
        simp only [execOp, Instr.buildSlice, Sem.run_bind, run_underlying (slB_under ht), Result.andThen_ok, sizeOf, my_typeInfo hi, Sem.run_pure, hsi, Sem.run_ite, if_neg hlen, hparts, h0, if_true, hr0]
        have hma : ∀ f : Nat → Value, Array.map f #[] = #[] := fun f => by simp
        simp only [hma, k1]
        simp [newRow]
      · simp only [execOp, Instr.buildSlice, Sem.run_bind, run_underlying (slB_under ht), Result.andThen_ok, sizeOf, my_typeInfo hi, Sem.run_pure, hsi, Sem.run_ite, if_neg hlen, hparts, if_neg h0, run_zero hz]
        have k1' := k1
        simp only [zc] at k1'
        simp only [k1']
        simp [newRow]
    · have := Rep.slNew (w := w.alloc (.cells out e)) (ok := ok) (sz := sz) (b := w.heap.size) (es := pds.map fun p => p.2.cells) (out := out) (e := e) (fun x hx => by
          obtain ⟨p, hp, rfl⟩ := List.mem_map.1 hx
          obtain ⟨j, hj⟩ := List.getElem?_of_mem hp
          exact (hidx j p hj).2) (RepL.of k2.length fun j d v h1 h2 => (k2.get j d v h1 h2).ext hE fun _ _ h => h) k3 (new_block _ _) (hnew _ (Nat.le_refl _)) (by
          have h5 : m ≤ m * sz := Nat.le_mul_of_pos_right _ hs0
          simp [maxLen]; omega)
      rw [List.length_map, hm] at this
      exact this
end
end Go.Proofs.YthpggoophcdgnaaDoor.Am
