/- The abstract machine, parts 41 to 61. Conditions: none. -/
import Derived.MapKept
import Derived.RangeFuncRecord
import Derived.Stop.IfaceNil
import Derived.Test.YtkbdnkjjklbddaaGreatDoorAmE
set_option linter.unusedVariables false
set_option linter.unusedSimpArgs false
namespace Go.Proofs.YtkbdnkjjklbddaaGreatDoor.Am
open Go Go.RowKit

section
variable {P : Program} {w0 : Cx} {ops : List Oper} {rest : List Oper} {R : Exit → St → Prop} {st : St} {ty : TypeId} {pos : String} {after : Array Edge}
end
section
variable {P : Program} {w0 : Cx} {n : Nat} {s : Nat → Site} {ev : Operand → T} {ty : TypeId} {pos : String} {after : Array Edge}
end
section
variable {P : Program} {w0 : Cx} {n : Nat} {s : Nat → Site} {ev : Operand → T} {dst : Option Tmp} {ty : TypeId} {pos : String} {after : Array Edge} {g : Option (Nat × Bool)}
end
open Go Go.RowKit

section
variable {P : Program} {w0 : Cx} {n : Nat} {s : Nat → Site} {ev : Operand → T} {ty : TypeId} {pos : String} {after : Array Edge}
end
section
variable {P : Program} {w0 : Cx} {n : Nat} {s : Nat → Site} {ev : Operand → T} {dst : Option Tmp} {ty : TypeId} {pos : String} {after : Array Edge} {g : Option (Nat × Bool)}
end
open Go Go.RowKit

def mapF : Option Nat → Value → List Value → Value → Prop := fun b _ _ v => ∃ b', b = some b' ∧ v = .map (some b')
abbrev T.mp (k : Nat) : T := .own k ⟨false, true⟩ [] mapF
section
variable {P : Program} {w0 : Cx} {n : Nat} {s : Nat → Site} {ev : Operand → T} {dst : Option Tmp} {ty : TypeId} {pos : String} {after : Array Edge} {g : Option (Nat × Bool)}
end
section
variable {P : Program} {w0 : Cx} {st : St} {ops rest : List Oper} {R : Exit → St → Prop} {ty : TypeId} {pos : String} {after : Array Edge}
end
open Go Go.RowKit

def mk (U : Tmp → Bool) (S : St) : St := { n := S.n, t := fun t => bif U t then .dead else S.t t, s := S.s }
section
variable {P : Program} {w0 : Cx}
end
section
variable {P : Program} {w0 : Cx} {S s : St} {ev : Operand → T} {l os : List Oper} {n : Nat} {Fl is : List Nat} {K : St → Prop} {dst : Option Tmp} {op : Op} {ty : TypeId} {pos : String} {after : Array Edge}
end
open Go Go.RowKit

section
variable {P : Program} {w0 : Cx} {n : Nat} {s : Nat → Site} {ev : Operand → T} {dst : Option Tmp} {ty : TypeId} {pos : String} {after : Array Edge} {g : Option (Nat × Bool)}
end
section
variable {P : Program} {w0 : Cx} {st : St} {a : Act} {w A B : World} {blk : Nat → Option Nat} {val : Nat → Value} {Y : Nat → Prop}
end
section
variable {P : Program} {w0 : Cx} {st : St} {a : Act} {w : World} {blk : Nat → Option Nat} {val : Nat → Value}
end
section
variable {P : Program} {α σ : Type} {J : (Nat → Prop) → σ → World → Prop} {c : Cx} {st : St} {s : σ}
end
open Go Go.RowKit

section
variable {P : Program} {w0 : Cx} {n : Nat} {s : Nat → Site} {ev : Operand → T} {dst : Option Tmp} {ty : TypeId} {pos : String} {after : Array Edge} {g : Option (Nat × Bool)}
theorem q_index_ar {t e m : TypeId} {y z : Operand} {cs : List D} {d : D} {i : Int} {k : IntKind} (ht : arB P t m e 1 = true) (hs : szB P e false 1 = true) (hy : ev y = .d (.agg cs)) (hz : ev z = .d (.v (.int k i))) (h0 : 0 ≤ i) (h1 : i < m) (hd : cs[i.toNat]? = some d) :
    QOp P w0 n s ev ⟨dst, .index t y z, ty, pos, after, g⟩ (.d d) :=
  .mk fun a w ok blk val h _ hnew => by
    obtain ⟨vs, hv, hL, _⟩ := agg_inv (show Rep w _ (.agg cs) (a.eval y) by have := h y; rw [hy] at this; exact this)
    have h2 : a.eval z = .int k i := RepT.v_eq (hz ▸ h z)
    obtain ⟨v, hvi, hr⟩ := hL.at_ hd
    refine ⟨v, w, ?_, Ext.refl w, hr⟩
    obtain ⟨inf, hi, hsz⟩ := arB_info ht
    simp [execOp, Instr.index, asIntOf, run_underlying (arB_under ht), hv, h2, h0, h1, sizeOf, my_typeInfo hi, hsz, part, szB_agg hs, hvi]
end
open Go Go.RowKit

section
variable {P : Program} {w0 : Cx} {n : Nat} {s : Nat → Site} {ev : Operand → T} {dst : Option Tmp} {ty : TypeId} {pos : String} {after : Array Edge} {g : Option (Nat × Bool)}
end
section
variable {H : Type} {enc : TypeId × Value → H} {P : Program} {w : World} {base : Nat} {spare : Nat → Bool} {held : Bool}
end
open Go Go.RowKit
section
variable {P : Program} {w0 : Cx} {n : Nat} {s : Nat → Site} {ev : Operand → T} {dst : Option Tmp} {ty : TypeId} {pos : String} {after : Array Edge} {g : Option (Nat × Bool)}
end
open Go Go.RowKit
section
variable {P : Program} {w0 : Cx} {n : Nat} {s : Nat → Site} {ev : Operand → T} {dst : Option Tmp} {ty : TypeId} {pos : String} {after : Array Edge} {g : Option (Nat × Bool)}
end
open Go Go.RowKit
def tpF (o : Nat) : Option Nat → Value → List Value → Value → Prop := fun b _ vs v => ∃ b', b = some b' ∧ v = .tuple (Value.pointer (some ⟨b', o, none⟩) :: vs).toArray
abbrev T.tp (k o : Nat) (ds : List D) : T := .own k ⟨false, false⟩ ds (tpF o)
section
variable {P : Program}
end
section
variable {P : Program} {w0 : Cx} {n : Nat} {s : Nat → Site} {ev : Operand → T} {dst : Option Tmp} {ty : TypeId} {pos : String} {after : Array Edge} {g : Option (Nat × Bool)}
end
open Go Go.RowKit
section
variable {P : Program} {w0 : Cx} {st : St} {a : Act} {w A B : World} {blk : Nat → Option Nat} {val : Nat → Value} {Y : Nat → Prop}
end
section
variable {P : Program} {w0 : Cx} {n : Nat} {s : Nat → Site} {ev : Operand → T} {dst : Option Tmp} {ty : TypeId} {pos : String} {after : Array Edge} {g : Option (Nat × Bool)}
end
section
variable {P : Program} {α : Type}
end
open Go Go.RowKit
section
variable {P : Program}
end
open Go Go.RowKit
section
variable {P : Program} {w0 : Cx}
end
open Go Go.RowKit
def errV (b : Bool) (v : Value) : Prop := (b = true ∧ v = .nilIface) ∨ (b = false ∧ ∃ tp p, v = .iface tp p)
def errF (b : Bool) : Option Nat → Value → List Value → Value → Prop := fun _ _ _ v => errV b v
def numE (n : Int) (b : Bool) (v : Value) : Prop := ∃ e, v = .tuple #[.int .i64 n, e] ∧ errV b e
def numF (n : Int) (b : Bool) : Option Nat → Value → List Value → Value → Prop := fun _ _ _ v => numE n b v
def PCQ (P : Program) (G : World → Prop) (f : FuncId) (args : List D) (Q : Value → Prop) : Prop :=
  ∀ (w : World) (ok : Nat → Prop) (vs : List Value), G w → RepL w ok args vs → Calls P f vs.toArray w fun e w' => ∃ v, e = .returned v ∧ Q v ∧ Ext w w'
section
variable {P : Program} {w0 : Cx} {n : Nat} {s : Nat → Site} {ev : Operand → T} {dst : Option Tmp} {ty : TypeId} {pos : String} {after : Array Edge} {g : Option (Nat × Bool)}
theorem q_neqErr {t t' : TypeId} {x : Operand} {k : Nat} {kd : Kd} {ds : List D} {b : Bool} (ht : P.isIface t = true) (hx : ev x = .own k kd ds (errF b)) : QOp P w0 n s ev ⟨dst, .binOp .neq t x (.const .nilIface) t', ty, pos, after, g⟩ (T.bool (!b)) :=
  .mk fun a w ok blk val h _ hnew => by
    have q := h x
    rw [hx] at q
    obtain ⟨_, vs, _, hF⟩ := q
    have hc : a.eval (.const .nilIface) = .nilIface := rfl
    rcases hF with ⟨rfl, hv⟩ | ⟨rfl, tp, p, hv⟩
    · refine ⟨.bool false, w, ?_, Ext.refl w, .v _ rfl⟩
      have hr := run_neq_nil_nil_at (P := P) w t ht
      simp [execOp, hv, hc, eqGuard, hr]
    · refine ⟨.bool true, w, ?_, Ext.refl w, .v _ rfl⟩
      have hr := run_neq_iface_nil (P := P) w t ht tp p
      simp [execOp, hv, hc, eqGuard, hr]
theorem q_extractE0 {y : Operand} {k : Nat} {kd : Kd} {ds : List D} {i : Int} {b : Bool} (hy : ev y = .own k kd ds (numF i b)) : QOp P w0 n s ev ⟨dst, .extract y 0, ty, pos, after, g⟩ (.d (.v (.int .i64 i))) :=
  .mk fun a w ok blk val h _ hnew => by
    have q := h y
    rw [hy] at q
    obtain ⟨_, vs, _, e, h3, _⟩ := q
    exact ⟨.int .i64 i, w, by simp [execOp, h3, Instr.extract], Ext.refl w, .v _ rfl⟩
theorem q_extractE1 {y : Operand} {k : Nat} {kd : Kd} {ds : List D} {i : Int} {b : Bool} (hy : ev y = .own k kd ds (numF i b)) : QOp P w0 n s ev ⟨dst, .extract y 1, ty, pos, after, g⟩ (.own k ⟨false, true⟩ [] (errF b)) :=
  .mk fun a w ok blk val h _ hnew => by
    have q := h y
    rw [hy] at q
    obtain ⟨⟨⟨h1, _⟩, _⟩, vs, _, e, h3, h4⟩ := q
    refine ⟨e, w, by simp [execOp, h3, Instr.extract], Ext.refl w, ⟨⟨h1, fun q => by cases q⟩, fun _ => ?_⟩, [], trivial, h4⟩
    rcases h4 with ⟨_, rfl⟩ | ⟨_, tp, p, rfl⟩ <;> rfl
end
section
variable {P : Program} {w0 : Cx} {ops rest : List Oper} {R : Exit → St → Prop} {st : St} {ty : TypeId} {pos : String} {after : Array Edge}
end
open Go Go.RowKit
section
variable {P : Program} {w0 : Cx} {ops rest : List Oper} {R : Exit → St → Prop} {st : St} {ty : TypeId} {pos : String} {after : Array Edge}
theorem aops_callQN {G : World → Prop} {Q : Value → Prop} {d k : Nat} {f : FuncId} {ys : List Operand} {at_ : Array TypeId} {ds : List D} (he : enB P f = true) (hG : ∀ w, ExtM w0 w → G w) (hr : PCQ P G f ds Q) (ha : ArgsD st.ev ys ds) (hk : (match st.s k with | .no => false | _ => true) = true) (hd : Nat.blt d st.n = true)
    (h : Aops P w0 ops rest R (st.put (some d) (.own k ⟨false, false⟩ [] (fun _ _ _ v => Q v)))) : Aops P w0 ops (⟨some d, .call ⟨.value (.func f), ys.toArray, at_⟩, ty, pos, after, none⟩ :: rest) R st := by
  rw [Nat.blt_eq] at hd
  refine aops_step (K := fun s => s = st.put (some d) (.own k ⟨false, false⟩ [] (fun _ _ _ v => Q v))) rfl (fun a w ⟨blk, val, hh⟩ => ?_) (fun _ e => e ▸ h)
  have hargs := args_rep (fun y => hh.ev y) ha
  refine ow_of_wp (fun c hc => by cases hc) ?_
  unfold Oper.wp
  rw [run_callValue (f := f) (cap := #[]) rfl rfl he]
  have hc := hr w (okOf w0 blk) (ys.map a.eval) (hG w hh.ext) hargs
  have harr : ((ys.map a.eval).toArray : Array Value) = ys.toArray.map a.eval ++ #[] := by simp
  rw [harr] at hc
  refine hc.mono ?_
  rintro e w' ⟨v, rfl, hQ, hE⟩
  refine ⟨_, rfl, blk, val, (hh.ext' hE).put (some d) _ v (fun j h => by cases h; exact hd) ?_⟩
  exact ⟨⟨⟨(fun e => by rw [e] at hk; cases hk), fun q => by cases q⟩, fun q => by cases q⟩, [], trivial, hQ⟩
end
open Go Go.RowKit
section
variable {P : Program} {w0 : Cx} {st : St} {a : Act} {w A B : World} {blk : Nat → Option Nat} {val : Nat → Value} {Y : Nat → Prop}
end
open Go Go.RowKit
section
variable {P : Program} {w0 : Cx} {st : St}
end
section
variable {P : Program} {w0 : Cx} {st : St}
end
open Go Go.RowKit
section
variable {P : Program} {w0 : Cx} {n : Nat} {s : Nat → Site} {ev : Operand → T} {dst : Option Tmp} {ty : TypeId} {pos : String} {after : Array Edge} {g : Option (Nat × Bool)}
end
section
variable {P : Program} {w0 : Cx} {st : St}
end
section
variable {P : Program} {w0 : Cx} {n : Nat} {s : Nat → Site} {ev : Operand → T} {ty : TypeId} {pos : String} {after : Array Edge}
end
open Go Go.RowKit
section
variable {P : Program} {w0 : Cx} {n : Nat} {s : Nat → Site} {ev : Operand → T} {dst : Option Tmp} {ty : TypeId} {pos : String} {after : Array Edge} {g : Option (Nat × Bool)}
end
section
variable {P : Program} {w0 : Cx} {ops rest : List Oper} {R : Exit → St → Prop} {st : St} {ty : TypeId} {pos : String} {after : Array Edge}
end
open Go Go.RowKit
structure GLow (NG : Nat) (G : World → Prop) : Prop where
  low : ∀ w, G w → NG ≤ w.heap.size
  keep : ∀ w w', G w → w.heap.size ≤ w'.heap.size → (∀ k, k < NG → w'.heap[k]? = w.heap[k]?) → G w'
def PCSG (P : Program) (NG : Nat) (G : World → Prop) (f : FuncId) (args : List T) (ss : List Site) (r : T) (ss' : List Site) : Prop :=
  ∀ (w : World) (ok : Nat → Prop) (blk : Nat → Option Nat) (val : Nat → Value) (vs : List Value), G w → (∀ i b, blk i = some b → NG ≤ b) →
    (∀ i b, blk i = some b → b < w.heap.size ∧ ¬ ok b) → (∀ i j b, blk i = some b → blk j = some b → i = j) → (∀ i, ss.length ≤ i → blk i = none) →
    (∀ i, SiteIn w ok blk val (getS ss) (blk i) (val i) (getS ss i)) → RepLT w ok blk val (getS ss) args vs →
    Calls P f vs.toArray w fun e w' => ∃ v blk' val', e = .returned v ∧ (∀ i, (getS ss i).isVar = true → blk' i = blk i) ∧ (∀ i b, blk' i = some b → (∃ j, blk j = some b) ∨ w.heap.size ≤ b) ∧ (∀ i b, blk' i = some b → b < w'.heap.size) ∧
      (∀ i j b, blk' i = some b → blk' j = some b → i = j) ∧ ExtM ⟨w, ok, fun b => ∃ i, blk i = some b, fun _ => none, fun _ => none, none⟩ w' ∧
      (∀ i, SiteIn w' (fun b => (ok b ∨ w.heap.size ≤ b) ∧ ∀ i, blk' i ≠ some b) blk' val' (getS ss') (blk' i) (val' i) (getS ss' i)) ∧
      RepT w' (fun b => (ok b ∨ w.heap.size ≤ b) ∧ ∀ i, blk' i ≠ some b) blk' val' (getS ss') r v
theorem PCS.g {P : Program} {f : FuncId} {args : List T} {ss : List Site} {r : T} {ss' : List Site} (h : PCS P f args ss r ss') (NG : Nat) (G : World → Prop) : PCSG P NG G f args ss r ss' := fun w ok blk val vs _ _ => h w ok blk val vs
section
variable {P : Program} {w0 : Cx} {st : St}
end
section
variable {P : Program} {w0 : Cx} {st : St}
end
section
variable {P : Program} {w0 : Cx} {ops : List Oper} {rest : List Oper} {R : Exit → St → Prop} {st : St} {ty : TypeId} {pos : String} {after : Array Edge}
theorem pcg_of_awpO {NG : Nat} {G : World → Prop} (hgk : GLow NG G) {f : FuncId} {fn : Func} {c : Code} {n : Nat} {args : List D} {r : D} {rs : List ResultVar} (hf : P.funcs[f]? = some fn) (hb : fn.body = some c) (hn : fn.ntmps = n) (hrs : fn.results = rs.toArray) (hl : args.length ≤ n)
    (h : ∀ w0 : Cx, (∀ b, w0.mine b → w0.ok b) → w0.rnd = none → (∀ k, w0.pin k = none) → (∀ w, ExtM w0 w → G w) → (∀ b, Ours w0 b → NG ≤ b) → Awp P w0 c (endR P rs r) (startSt n args)) : PCG P G f args r := by
  intro w ok vs hg hL
  refine (callsIn_wide (n := 1)).1 (callsIn_of_wp_marks hf hb trivial ?_ rfl)
  have h0 : Hold ⟨w, ok, fun _ => False, fun _ => none, fun _ => none, none⟩ (startSt n args) { tmps := vs.toArray ++ Array.replicate (fn.ntmps - vs.toArray.size) undef, defers := [] } w (fun _ => none) (fun _ => undef) := by
    refine ⟨⟨rfl, rfl, rfl, Nat.le_refl _, fun _ _ _ => rfl⟩, Kept.nil rfl rfl, ?_, fun s b h => by simp at h, fun s s' b h => by simp at h, (fun k b h => by cases h), fun s => rfl, fun t => ?_⟩
    · have := hL.length
      simp [startSt, hn]; omega
    · have := argT_rep (blk := fun _ => none) (val := fun _ => undef) (s := fun _ => Site.no) (fn.ntmps - vs.toArray.size) (RepL.of (ok := okOf ⟨w, ok, fun _ => False, fun _ => none, fun _ => none, none⟩ fun _ => none) hL.length fun j d v h1 h2 => (hL.get j d v h1 h2).ok fun b _ hb => ⟨.inl hb, fun s h => by cases h⟩) t
      have e : (vs.toArray ++ Array.replicate (fn.ntmps - vs.toArray.size) undef) = (vs ++ List.replicate (fn.ntmps - vs.toArray.size) undef).toArray := by simp
      show RepT _ _ _ _ _ _ ((vs.toArray ++ Array.replicate (fn.ntmps - vs.toArray.size) undef).getD t undef)
      rw [e, Array.getD_eq_getD_getElem?, List.getElem?_toArray, ← List.getD_eq_getElem?_getD]
      exact this
  refine wpIn_mono (h ⟨w, ok, fun _ => False, fun _ => none, fun _ => none, none⟩ (fun _ h => h.elim) rfl (fun _ => rfl) (fun w' hx => hgk.keep w w' hg hx.size fun k hk => hx.block k (Nat.lt_of_lt_of_le hk (hgk.low w hg)) (fun h => h)) (fun b hb => hb.elim (fun q => Nat.le_trans (hgk.low w hg) q) fun q => q.elim) Fence.wide 1 ⟨.inl rfl, rfl⟩ _ w ⟨_, _, h0⟩) fun e a w' ⟨st', hR, hH⟩ => ?_
  cases e with
  | normal =>
    obtain ⟨ds, hd, rfl⟩ := hR
    obtain ⟨ms, m1, m2, m3, blk, val, hh⟩ := hH.shut rfl
    obtain ⟨v, h1, h2⟩ := run_results hh hrs hd
    show LeavesInM _ _ _ _ _ _ _ _ _
    rw [m1]
    exact shut_leaves ms w' m2 m3 ⟨v, h1, v, rfl, ⟨hh.ext.os, hh.ext.tape, hh.ext.output, hh.ext.size, fun k hk => hh.ext.block k hk (fun h => h)⟩, h2.ok fun b _ hb => hb.imp id fun h => h.resolve_right (fun h => h)⟩
  | ret =>
    obtain ⟨ds, hd, rfl⟩ := hR
    obtain ⟨ms, m1, m2, m3, blk, val, hh⟩ := hH.shut rfl
    obtain ⟨v, h1, h2⟩ := run_results hh hrs hd
    show LeavesInM _ _ _ _ _ _ _ _ _
    rw [m1]
    exact shut_leaves ms w' m2 m3 ⟨v, h1, v, rfl, ⟨hh.ext.os, hh.ext.tape, hh.ext.output, hh.ext.size, fun k hk => hh.ext.block k hk (fun h => h)⟩, h2.ok fun b _ hb => hb.imp id fun h => h.resolve_right (fun h => h)⟩
  | exit id => exact hR.elim
  | goto l => exact hR.elim
  | panic c => exact hR.elim
  | outgrown => exact hR.elim
end
open Go Go.RowKit
section
variable {P : Program} {w0 : Cx} {n : Nat} {s : Nat → Site} {ev : Operand → T} {dst : Option Tmp} {ty : TypeId} {pos : String} {after : Array Edge} {g : Option (Nat × Bool)}
theorem QOp.mkW {o : Oper} {x : T} (h : ∀ (a : Act) (w : World) (ok : Nat → Prop) (blk : Nat → Option Nat) (val : Nat → Value), ExtM w0 w → (∀ y, RepT w ok blk val s (ev y) (a.eval y)) → ∃ v, (execOp a.eval o).run P w = .ok (.value v) w ∧ RepT w ok blk val s x v) : QOp P w0 n s ev o x := by
  intro st a w ⟨blk, val, hh⟩ hs hn hev hd
  obtain ⟨blk', h1, h2, h3⟩ := QOp.core hh hs hev
  obtain ⟨v, h1, h2⟩ := h a w (okOf w0 blk) blk' val hh.ext h1
  exact wp_value h1 ⟨blk, val, (hh.ext' (Ext.refl w)).put o.dst x v (fun d h => by rw [hn]; exact hd d h) (h3 _ _ _ _ h2)⟩
theorem q_indexAddr_glob {t : TypeId} {z : Operand} {m e sz g0 : Nat} {i : Int} {k : IntKind} (ht : arB P t m e sz = true) (hz : ev z = .d (.v (.int k i))) (h0 : 0 ≤ i) (h1 : i < m) : QOp P w0 n s ev ⟨dst, .indexAddr t (.global g0) z, ty, pos, after, g⟩ (.d (.v (.pointer (some ⟨g0, 0 + i.toNat * sz, none⟩)))) :=
  .mkW fun a w ok blk val _ h => by
    have h2 : a.eval z = .int k i := RepT.v_eq (hz ▸ h z)
    have h3 : a.eval (.global g0) = .pointer (some ⟨g0, 0, none⟩) := rfl
    exact ⟨.pointer (some ⟨g0, 0 + i.toNat * sz, none⟩), by simp [execOp, h3, h2, run_indexAt_ar ht h0 h1], .v _ rfl⟩
theorem q_load_glob {t : TypeId} {y : Operand} {g0 o : Nat} {u : Value} (ht : szB P t false 1 = true) (hy : ev y = .d (.v (.pointer (some ⟨g0, o, none⟩)))) (hG : ∀ w, ExtM w0 w → w.cell? ⟨g0, o, none⟩ = some u) (hu : u.oneCell' = true) : QOp P w0 n s ev ⟨dst, .load t y, ty, pos, after, g⟩ (.d (.v u)) :=
  .mkW fun a w ok blk val hE h => by
    have hv : a.eval y = .pointer (some ⟨g0, o, none⟩) := RepT.v_eq (hy ▸ h y)
    have hc := hG w hE
    exact ⟨u, by simp [execOp, hv, Instr.loadAt, Instr.sureAddr, loadVar, szB_agg ht, hc], .v _ hu⟩
end
end Go.Proofs.YtkbdnkjjklbddaaGreatDoor.Am
