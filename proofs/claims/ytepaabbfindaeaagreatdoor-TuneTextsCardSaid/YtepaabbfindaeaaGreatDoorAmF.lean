/- The abstract machine, parts 41 to 54. Conditions: none. -/
import Derived.MapKept
import Derived.RangeFuncRecord
import Derived.Stop.IfaceNil
import Derived.Test.YtepaabbfindaeaaGreatDoorAmE
set_option linter.unusedVariables false
set_option linter.unusedSimpArgs false
namespace Go.Proofs.YtepaabbfindaeaaGreatDoor.Am
open Go Go.RowKit

section
variable {P : Program} {w0 : Cx} {ops : List Oper} {rest : List Oper} {R : Exit → St → Prop} {st : St} {ty : TypeId} {pos : String} {after : Array Edge}
end
section
variable {P : Program} {w0 : Cx} {n : Nat} {s : Nat → Site} {ev : Operand → T} {ty : TypeId} {pos : String} {after : Array Edge}
end
section
variable {P : Program} {w0 : Cx} {n : Nat} {s : Nat → Site} {ev : Operand → T} {dst : Option Tmp} {ty : TypeId} {pos : String} {after : Array Edge} {g : Option (Nat × Bool)}
end
end Go.Proofs.YtepaabbfindaeaaGreatDoor.Am
namespace Go.Proofs.YtepaabbfindaeaaGreatDoor.Am
open Go Go.RowKit

section
variable {P : Program} {w0 : Cx} {n : Nat} {s : Nat → Site} {ev : Operand → T} {ty : TypeId} {pos : String} {after : Array Edge}
end
section
variable {P : Program} {w0 : Cx} {n : Nat} {s : Nat → Site} {ev : Operand → T} {dst : Option Tmp} {ty : TypeId} {pos : String} {after : Array Edge} {g : Option (Nat × Bool)}
end
end Go.Proofs.YtepaabbfindaeaaGreatDoor.Am
namespace Go.Proofs.YtepaabbfindaeaaGreatDoor.Am
open Go Go.RowKit

/-- A map that the call made. -/
def mapF : Option Nat → Value → List Value → Value → Prop := fun b _ _ v => ∃ b', b = some b' ∧ v = .map (some b')
abbrev T.mp (k : Nat) : T := .own k ⟨false, true⟩ [] mapF
section
variable {P : Program} {w0 : Cx} {n : Nat} {s : Nat → Site} {ev : Operand → T} {dst : Option Tmp} {ty : TypeId} {pos : String} {after : Array Edge} {g : Option (Nat × Bool)}
end
section
variable {P : Program} {w0 : Cx} {st : St} {ops rest : List Oper} {R : Exit → St → Prop} {ty : TypeId} {pos : String} {after : Array Edge}
end
end Go.Proofs.YtepaabbfindaeaaGreatDoor.Am
namespace Go.Proofs.YtepaabbfindaeaaGreatDoor.Am
open Go Go.RowKit

def mk (U : Tmp → Bool) (S : St) : St := { n := S.n, t := fun t => bif U t then .dead else S.t t, s := S.s }
section
variable {P : Program} {w0 : Cx}
end
section
variable {P : Program} {w0 : Cx} {S s : St} {ev : Operand → T} {l os : List Oper} {n : Nat} {Fl is : List Nat} {K : St → Prop} {dst : Option Tmp} {op : Op} {ty : TypeId} {pos : String} {after : Array Edge}
end
end Go.Proofs.YtepaabbfindaeaaGreatDoor.Am
namespace Go.Proofs.YtepaabbfindaeaaGreatDoor.Am
open Go Go.RowKit

section
variable {P : Program} {w0 : Cx} {n : Nat} {s : Nat → Site} {ev : Operand → T} {dst : Option Tmp} {ty : TypeId} {pos : String} {after : Array Edge} {g : Option (Nat × Bool)}
end
section
variable {P : Program} {w0 : Cx} {st : St} {a : Act} {w A B : World} {blk : Nat → Option Nat} {val : Nat → Value} {Y : Nat → Prop}
end
section
variable {P : Program} {w0 : Cx} {st : St} {a : Act} {w : World} {blk : Nat → Option Nat} {val : Nat → Value}
end
section
variable {P : Program} {α σ : Type} {J : (Nat → Prop) → σ → World → Prop} {c : Cx} {st : St} {s : σ}
end
end Go.Proofs.YtepaabbfindaeaaGreatDoor.Am
namespace Go.Proofs.YtepaabbfindaeaaGreatDoor.Am
open Go Go.RowKit

section
variable {P : Program} {w0 : Cx} {n : Nat} {s : Nat → Site} {ev : Operand → T} {dst : Option Tmp} {ty : TypeId} {pos : String} {after : Array Edge} {g : Option (Nat × Bool)}
end
end Go.Proofs.YtepaabbfindaeaaGreatDoor.Am
namespace Go.Proofs.YtepaabbfindaeaaGreatDoor.Am
open Go Go.RowKit

section
variable {P : Program} {w0 : Cx} {n : Nat} {s : Nat → Site} {ev : Operand → T} {dst : Option Tmp} {ty : TypeId} {pos : String} {after : Array Edge} {g : Option (Nat × Bool)}
end
section
variable {H : Type} {enc : TypeId × Value → H} {P : Program} {w : World} {base : Nat} {spare : Nat → Bool} {held : Bool}
end
end Go.Proofs.YtepaabbfindaeaaGreatDoor.Am
namespace Go.Proofs.YtepaabbfindaeaaGreatDoor.Am
open Go Go.RowKit
section
variable {P : Program} {w0 : Cx} {n : Nat} {s : Nat → Site} {ev : Operand → T} {dst : Option Tmp} {ty : TypeId} {pos : String} {after : Array Edge} {g : Option (Nat × Bool)}
end
end Go.Proofs.YtepaabbfindaeaaGreatDoor.Am
namespace Go.Proofs.YtepaabbfindaeaaGreatDoor.Am
open Go Go.RowKit
section
variable {P : Program} {w0 : Cx} {n : Nat} {s : Nat → Site} {ev : Operand → T} {dst : Option Tmp} {ty : TypeId} {pos : String} {after : Array Edge} {g : Option (Nat × Bool)}
end
end Go.Proofs.YtepaabbfindaeaaGreatDoor.Am
namespace Go.Proofs.YtepaabbfindaeaaGreatDoor.Am
open Go Go.RowKit
/-- A tuple of a pointer and of data. -/
def tpF (o : Nat) : Option Nat → Value → List Value → Value → Prop := fun b _ vs v => ∃ b', b = some b' ∧ v = .tuple (Value.pointer (some ⟨b', o, none⟩) :: vs).toArray
abbrev T.tp (k o : Nat) (ds : List D) : T := .own k ⟨false, false⟩ ds (tpF o)
section
variable {P : Program}
end
section
variable {P : Program} {w0 : Cx} {n : Nat} {s : Nat → Site} {ev : Operand → T} {dst : Option Tmp} {ty : TypeId} {pos : String} {after : Array Edge} {g : Option (Nat × Bool)}
end
end Go.Proofs.YtepaabbfindaeaaGreatDoor.Am
namespace Go.Proofs.YtepaabbfindaeaaGreatDoor.Am
open Go Go.RowKit
section
variable {P : Program} {w0 : Cx} {st : St} {a : Act} {w A B : World} {blk : Nat → Option Nat} {val : Nat → Value} {Y : Nat → Prop}
end
section
variable {P : Program} {w0 : Cx} {n : Nat} {s : Nat → Site} {ev : Operand → T} {dst : Option Tmp} {ty : TypeId} {pos : String} {after : Array Edge} {g : Option (Nat × Bool)}
end
section
variable {P : Program} {α : Type}
end
end Go.Proofs.YtepaabbfindaeaaGreatDoor.Am
namespace Go.Proofs.YtepaabbfindaeaaGreatDoor.Am
open Go Go.RowKit
section
variable {P : Program}
end
end Go.Proofs.YtepaabbfindaeaaGreatDoor.Am
namespace Go.Proofs.YtepaabbfindaeaaGreatDoor.Am
open Go Go.RowKit
section
variable {P : Program} {w0 : Cx}
end
end Go.Proofs.YtepaabbfindaeaaGreatDoor.Am
namespace Go.Proofs.YtepaabbfindaeaaGreatDoor.Am
open Go Go.RowKit
/-- Addresses in one variable, as an array. -/
def ptrV (b : Nat) (os : List Nat) : List Value := os.map fun o => Value.pointer (some ⟨b, o, none⟩)
def ptF (os : List Nat) : Option Nat → Value → List Value → Value → Prop := fun b _ _ v => ∃ b', b = some b' ∧ v = .agg (ptrV b' os).toArray
abbrev T.ptrs (k : Nat) (os : List Nat) : T := .own k ⟨false, false⟩ [] (ptF os)
/-- An error, nil or not. -/
def errV (b : Bool) (v : Value) : Prop := (b = true ∧ v = .nilIface) ∨ (b = false ∧ ∃ tp p, v = .iface tp p)
def errF (b : Bool) : Option Nat → Value → List Value → Value → Prop := fun _ _ _ v => errV b v
def numE (n : Int) (b : Bool) (v : Value) : Prop := ∃ e, v = .tuple #[.int .i64 n, e] ∧ errV b e
def numF (n : Int) (b : Bool) : Option Nat → Value → List Value → Value → Prop := fun _ _ _ v => numE n b v
/-- A contract on data that tells of what comes back by a relation. -/
def PCQ (P : Program) (G : World → Prop) (f : FuncId) (args : List D) (Q : Value → Prop) : Prop :=
  ∀ (w : World) (ok : Nat → Prop) (vs : List Value), G w → RepL w ok args vs → Calls P f vs.toArray w fun e w' => ∃ v, e = .returned v ∧ Q v ∧ Ext w w'
section
variable {P : Program} {w0 : Cx} {n : Nat} {s : Nat → Site} {ev : Operand → T} {dst : Option Tmp} {ty : TypeId} {pos : String} {after : Array Edge} {g : Option (Nat × Bool)}
theorem q_neqErr {t t' : TypeId} {x : Operand} {k : Nat} {kd : Kd} {ds : List D} {b : Bool} (ht : P.isIface t = true) (hx : ev x = .own k kd ds (errF b)) : QOp P w0 n s ev ⟨dst, .binOp .neq t x (.const .nilIface) t', ty, pos, after, g⟩ (T.bool (!b)) :=
  .mk fun a w ok blk val h _ hnew => by
    have q := h x
    rw [hx] at q
    obtain ⟨_, vs, _, hF⟩ := q
    have hc : a.eval (.const .nilIface) = .nilIface := rfl
    rcases hF with ⟨rfl, hv⟩ | ⟨rfl, tp, p, hv⟩
    · refine ⟨.bool false, w, ?_, Ext.refl w, .v _ rfl⟩
      have hr := run_neq_nil_nil_at (P := P) w t ht
      simp [execOp, hv, hc, eqGuard, hr]
    · refine ⟨.bool true, w, ?_, Ext.refl w, .v _ rfl⟩
      have hr := run_neq_iface_nil (P := P) w t ht tp p
      simp [execOp, hv, hc, eqGuard, hr]
theorem q_extractE0 {y : Operand} {k : Nat} {kd : Kd} {ds : List D} {i : Int} {b : Bool} (hy : ev y = .own k kd ds (numF i b)) : QOp P w0 n s ev ⟨dst, .extract y 0, ty, pos, after, g⟩ (.d (.v (.int .i64 i))) :=
  .mk fun a w ok blk val h _ hnew => by
    have q := h y
    rw [hy] at q
    obtain ⟨_, vs, _, e, h3, _⟩ := q
    exact ⟨.int .i64 i, w, by simp [execOp, h3, Instr.extract], Ext.refl w, .v _ rfl⟩
theorem q_extractE1 {y : Operand} {k : Nat} {kd : Kd} {ds : List D} {i : Int} {b : Bool} (hy : ev y = .own k kd ds (numF i b)) : QOp P w0 n s ev ⟨dst, .extract y 1, ty, pos, after, g⟩ (.own k ⟨false, true⟩ [] (errF b)) :=
  .mk fun a w ok blk val h _ hnew => by
    have q := h y
    rw [hy] at q
    obtain ⟨⟨⟨h1, _⟩, _⟩, vs, _, e, h3, h4⟩ := q
    refine ⟨e, w, by simp [execOp, h3, Instr.extract], Ext.refl w, ⟨⟨h1, fun q => by cases q⟩, fun _ => ?_⟩, [], trivial, h4⟩
    rcases h4 with ⟨_, rfl⟩ | ⟨_, tp, p, rfl⟩ <;> rfl
theorem q_index_ptrs {t e m : TypeId} {y z : Operand} {kk : Nat} {os : List Nat} {o : Nat} {i : Int} {k : IntKind} (ht : arB P t m e 1 = true) (hs : szB P e false 1 = true) (hy : ev y = T.ptrs kk os) (hz : ev z = .d (.v (.int k i))) (h0 : 0 ≤ i) (h1 : i < m) (hd : os[i.toNat]? = some o) :
    QOp P w0 n s ev ⟨dst, .index t y z, ty, pos, after, g⟩ (.ref kk o) :=
  .mk fun a w ok blk val h _ hnew => by
    have q := h y
    rw [hy] at q
    obtain ⟨⟨⟨q1, _⟩, _⟩, vs, _, b, hb, hv⟩ := q
    have h2 : a.eval z = .int k i := RepT.v_eq (hz ▸ h z)
    have hvi : (ptrV b os)[i.toNat]? = some (.pointer (some ⟨b, o, none⟩)) := by unfold ptrV; rw [List.getElem?_map, hd]; rfl
    refine ⟨.pointer (some ⟨b, o, none⟩), w, ?_, Ext.refl w, q1, b, hb, rfl⟩
    obtain ⟨inf, hi, hsz⟩ := arB_info ht
    simp [execOp, Instr.index, asIntOf, run_underlying (arB_under ht), hv, h2, h0, h1, sizeOf, my_typeInfo hi, hsz, part, szB_agg hs, hvi]
theorem q_build_ptrs {t m e : Nat} {z : Value} {y0 y1 y2 : Operand} {kk o0 o1 o2 : Nat} (hp : arB P t m e 1 = true) (hz : zrB P t z) (h1 : z.cells.size = 3) (e0 : ev y0 = .ref kk o0) (e1 : ev y1 = .ref kk o1) (e2 : ev y2 = .ref kk o2) :
    QOp P w0 n s ev ⟨dst, .build t #[(0, y0), (1, y1), (2, y2)], ty, pos, after, g⟩ (T.ptrs kk [o0, o1, o2]) :=
  .mk fun a w ok blk val h _ hnew => by
    have q0 := h y0
    have q1 := h y1
    have q2 := h y2
    rw [e0] at q0
    rw [e1] at q1
    rw [e2] at q2
    obtain ⟨r0, b, hb, v0⟩ := q0
    obtain ⟨_, b1, hb1, v1⟩ := q1
    obtain ⟨_, b2, hb2, v2⟩ := q2
    rw [hb] at hb1 hb2
    cases hb1; cases hb2
    refine ⟨.agg (ptrV b [o0, o1, o2]).toArray, w, ?_, Ext.refl w, ⟨⟨r0, fun q => by cases q⟩, fun q => by cases q⟩, [], trivial, b, hb, rfl⟩
    obtain ⟨i, hi, hsz⟩ := arB_info hp
    have hc : P.cellsOf e = 1 := by simp [Program.cellsOf, hi, hsz]
    have hr := run_cellsOf (P := P) (t := e) (by rw [hi]; rfl) w
    rw [hc] at hr
    obtain ⟨c0, c1, c2, hcs⟩ : ∃ c0 c1 c2, z.cells = #[c0, c1, c2] := by
      match hq : z.cells, h1 with
      | ⟨[c0, c1, c2]⟩, _ => exact ⟨c0, c1, c2, rfl⟩
    have hpc : ∀ o, (Value.pointer (some ⟨b, o, none⟩)).cells = #[Value.pointer (some ⟨b, o, none⟩)] := fun o => rfl
    simp [execOp, Instr.build, run_zero hz, run_underlying (arB_under hp), hr, v0, v1, v2, hcs, Instr.fill, ptrV, hpc]
theorem q_load_ptrs {t : TypeId} {y : Operand} {m k kk : Nat} {os : List Nat} (ht : szB P t true m = true) (hy : ev y = .ref k 0) (hk : s k = .tbox (os.map fun o => T.ref kk o)) (hl : os.length = m) (h0 : 0 < os.length) : QOp P w0 n s ev ⟨dst, .load t y, ty, pos, after, g⟩ (T.ptrs kk os) :=
  .mk fun a w ok blk val h hs hnew => by
    have h1 := h y
    rw [hy] at h1
    obtain ⟨_, b, hb, hv⟩ := h1
    have h2 := hs k
    rw [hk] at h2
    obtain ⟨b', e, vals, hb2, hheap, hsz, hc⟩ := h2
    rw [hb] at hb2; cases hb2
    have hld := run_loadBlock (P := P) hheap
    rw [hsz, List.length_map, hl] at hld
    have hc' : ∀ (j o : Nat), os[j]? = some o → s kk ≠ .no ∧ ∃ bb, blk kk = some bb ∧ vals[j]? = some (.pointer (some ⟨bb, o, none⟩)) := fun j o ho => by
      obtain ⟨v, hv, _, q1, bb, q2, q3⟩ := hc j (.ref kk o) (by rw [List.getElem?_map, ho]; rfl)
      exact ⟨q1, bb, q2, by rw [hv, q3]⟩
    obtain ⟨hsk, bb, hbb, _⟩ := hc' 0 os[0] (List.getElem?_eq_getElem h0)
    refine ⟨.agg vals, w, ?_, Ext.refl w, ⟨⟨hsk, fun q => by cases q⟩, fun q => by cases q⟩, [], trivial, bb, hbb, ?_⟩
    · simp only [execOp, hv, Instr.loadAt, Instr.sureAddr, loadVar, Sem.run_bind, Sem.run_pure, Result.andThen_ok, szB_agg ht, if_true, szB_size ht, hld]
    · congr 1
      apply Array.ext_getElem?
      intro j
      have e1 : (ptrV bb os).toArray[j]? = os[j]?.map fun o => Value.pointer (some ⟨bb, o, none⟩) := by
        unfold ptrV
        rw [← List.getElem?_map]
        simp
      rw [e1]
      cases ho : os[j]? with
      | none =>
        have := List.getElem?_eq_none_iff.1 ho
        rw [Array.getElem?_eq_none (by rw [hsz, List.length_map]; exact this)]; rfl
      | some o =>
        obtain ⟨_, b2, h3, h4⟩ := hc' j o ho
        rw [hbb] at h3; cases h3
        exact h4
end
section
variable {P : Program} {w0 : Cx} {ops rest : List Oper} {R : Exit → St → Prop} {st : St} {ty : TypeId} {pos : String} {after : Array Edge}
theorem aops_store_ptrs {t : TypeId} {y x : Operand} {agg : Bool} {m k kk : Nat} {cs : List T} {os : List Nat} (ht : szB P t agg m = true) (hy : st.ev y = .ref k 0) (hx : st.ev x = T.ptrs kk os) (hk : st.s k = .tbox cs) (hm : os.length = m) (hl : cs.length = m)
    (h : Aops P w0 ops rest R (st.site k (.tbox (os.map fun o => T.ref kk o)))) : Aops P w0 ops (⟨none, .store t y x, ty, pos, after, none⟩ :: rest) R st := by
  refine aops_storeW (ts := os.map fun o => T.ref kk o) ht hy hk (by omega) (show setTs cs 0 _ = _ by
    unfold setTs
    rw [List.take_zero, List.nil_append, Nat.zero_add, List.length_map, hm, ← hl, List.drop_length, List.append_nil]) (by rw [List.length_map]; exact hm) (fun a w blk val hh => ?_) h
  have hr : RepT w (okOf w0 blk) blk val st.s (T.ptrs kk os) (a.eval x) := hx ▸ hh.ev x
  obtain ⟨⟨⟨q1, _⟩, _⟩, vs, _, b, hb, hv⟩ := hr
  refine ⟨ptrV b os, by rw [hv]; simp [Value.cells], by unfold ptrV; rw [List.length_map]; exact hm, fun j z hz => ?_⟩
  rw [List.getElem?_map] at hz
  cases ho : os[j]? with
  | none => rw [ho] at hz; cases hz
  | some o =>
    rw [ho] at hz; cases hz
    exact ⟨.pointer (some ⟨b, o, none⟩), by unfold ptrV; rw [List.getElem?_map, ho]; rfl, rfl, q1, b, hb, rfl⟩
/-- A call that yields what a relation tells of; a variable of the call's own bears it. -/
theorem aops_callQ {G : World → Prop} {Q : Value → Prop} {d k : Nat} {cs : List D} {f : FuncId} {ys : List Operand} {at_ : Array TypeId} {ds : List D} (he : enB P f = true) (hG : ∀ w, ExtM w0 w → G w) (hr : PCQ P G f ds Q) (ha : ArgsD st.ev ys ds) (hk : st.s k = .box cs) (hd : Nat.blt d st.n = true)
    (h : Aops P w0 ops rest R (st.put (some d) (.own k ⟨false, false⟩ [] (fun _ _ _ v => Q v)))) : Aops P w0 ops (⟨some d, .call ⟨.value (.func f), ys.toArray, at_⟩, ty, pos, after, none⟩ :: rest) R st := by
  rw [Nat.blt_eq] at hd
  refine aops_step (K := fun s => s = st.put (some d) (.own k ⟨false, false⟩ [] (fun _ _ _ v => Q v))) rfl (fun a w ⟨blk, val, hh⟩ => ?_) (fun _ e => e ▸ h)
  have hargs := args_rep (fun y => hh.ev y) ha
  refine ow_of_wp (fun c hc => by cases hc) ?_
  unfold Oper.wp
  rw [run_callValue (f := f) (cap := #[]) rfl rfl he]
  have hc := hr w (okOf w0 blk) (ys.map a.eval) (hG w hh.ext) hargs
  have harr : ((ys.map a.eval).toArray : Array Value) = ys.toArray.map a.eval ++ #[] := by simp
  rw [harr] at hc
  refine hc.mono ?_
  rintro e w' ⟨v, rfl, hQ, hE⟩
  refine ⟨_, rfl, blk, val, (hh.ext' hE).put (some d) _ v (fun j h => by cases h; exact hd) ?_⟩
  exact ⟨⟨⟨by rw [hk]; simp, fun q => by cases q⟩, fun q => by cases q⟩, [], trivial, hQ⟩
end
end Go.Proofs.YtepaabbfindaeaaGreatDoor.Am
