/- The abstract machine, parts 36 to 40. Conditions: none. -/
import Derived.Laws.CopyRow
import Derived.Test.YthpggoophcdgnaaDoorAmD
set_option linter.unusedVariables false
set_option linter.unusedSimpArgs false
namespace Go.Proofs.YthpggoophcdgnaaDoor.Am
open Go Go.RowKit

section
variable {P : Program} {w0 : Cx} {ops : List Oper} {rest : List Oper} {R : Exit → St → Prop} {st : St} {ty : TypeId} {pos : String} {after : Array Edge}
theorem Ext.newRow {w : World} {o : Obj} {cs : Array Value} : Ext w ((w.alloc o).setRow w.heap.size cs) := by
  have h := (Ext.refl w).alloc o
  exact ⟨h.os, h.tape, h.output, by rw [setRow_size]; exact h.size, fun k hk => by rw [setRow_block (by omega)]; exact h.block k hk⟩
theorem aops_allocD {d : Nat} {e t : TypeId} {agg : Bool} {m : Nat} {z : Value} {x : Operand} {X : D} {ty' : TypeId} {pos' : String} {after' : Array Edge} (hz : zrB P e z) (hzs : z.cells.size = m) (ht : szB P t agg m = true) (hxd : (match x with | .tmp q => Nat.beq q d | _ => false) = false) (hx : st.ev x = .d X) (hX : X.sc = true ∨ ∃ cs, X = .agg cs) (hm : X.cells.length = m)
    (hd : Nat.blt d st.n = true) (h : Aops P w0 ops rest R (st.put (some d) (.d (.pt X.cells 0)))) :
    Aops P w0 ops (⟨some d, .alloc e, ty, pos, after, none⟩ :: ⟨none, .store t (.tmp d) x, ty', pos', after', none⟩ :: rest) R st := by
  intro F mm hF a w ⟨blk, val, hh⟩
  rw [Nat.blt_eq] at hd
  unfold wpListIn
  rw [if_pos (by simp [Region.wanted])]
  refine (wp_value (v := .pointer (some ⟨w.heap.size, 0, none⟩)) (w' := w.alloc (.cells z.cells e)) (by simp [execOp, Instr.alloc, run_zero hz, newVar, newRow]) (K := fun a' w' => a' = a.put (some d) (.pointer (some ⟨w.heap.size, 0, none⟩)) ∧ w' = w.alloc (.cells z.cells e)) ⟨rfl, rfl⟩).to hF ?_
  intro a2 w2 h2
  rw [h2.1, h2.2]
  unfold wpListIn
  rw [if_pos (by simp [Region.wanted])]
  have hs1 : d < a.tmps.size := by rw [hh.size]; exact hd
  have hev : (a.put (some d) (.pointer (some ⟨w.heap.size, 0, none⟩))).eval (.tmp d) = .pointer (some ⟨w.heap.size, 0, none⟩) := by simp [Act.eval, Act.put, hs1]
  have hevx : (a.put (some d) (.pointer (some ⟨w.heap.size, 0, none⟩))).eval x = a.eval x := by
    cases x with
    | tmp q =>
      have hq : q ≠ d := fun e => by subst e; simp at hxd
      simp [Act.eval, Act.put, Ne.symm hq]
    | _ => rfl
  have hr : Rep w (okOf w0 blk) X (a.eval x) := by have := hh.ev x; rw [hx] at this; exact this
  obtain ⟨hL, hs⟩ := cells_inv hr hX
  have hcl : (a.eval x).cells.size = m := by rw [← hm, ← hL.length, Array.length_toList]
  have hheap : (w.alloc (.cells z.cells e)).heap[w.heap.size]? = some (.cells z.cells e (0, 0)) := new_block _ _
  have hrun := run_storeAt (P := P) (o := 0) (v := a.eval x) ht hcl hheap (by omega) (hL.mem hs)
  have hcs : (z.cells.toList.take 0 ++ (a.eval x).cells.toList ++ z.cells.toList.drop (0 + m)).toArray = (a.eval x).cells := by
    rw [List.take_zero, List.nil_append, Nat.zero_add, List.drop_of_length_le (by rw [Array.length_toList]; omega), List.append_nil]
  rw [hcs] at hrun
  have hE : Ext w ((w.alloc (.cells z.cells e)).setRow w.heap.size (a.eval x).cells) := Ext.newRow
  have hblk : ((w.alloc (.cells z.cells e)).setRow w.heap.size (a.eval x).cells).heap[w.heap.size]? = some (.cells (a.eval x).cells e (0, 0)) := setRow_same hheap
  refine (show OW P w0 _ _ _ (fun a' w' => a' = a.put (some d) (.pointer (some ⟨w.heap.size, 0, none⟩)) ∧ w' = (w.alloc (.cells z.cells e)).setRow w.heap.size (a.eval x).cells) from ow_of_wp (fun c hc => by cases hc) (by
    unfold Oper.wp
    rw [show (execOp (a.put (some d) (.pointer (some ⟨w.heap.size, 0, none⟩))).eval ⟨none, .store t (.tmp d) x, ty', pos', after', none⟩).run P (w.alloc (.cells z.cells e)) = .ok .skip ((w.alloc (.cells z.cells e)).setRow w.heap.size (a.eval x).cells) by simp [execOp, hev, hevx, hrun]]
    exact ⟨rfl, rfl⟩)).to hF ?_
  intro a3 w3 h3
  rw [h3.1, h3.2]
  refine h F mm hF _ _ ⟨blk, val, put_hold (hh.ext' hE) hd ?_⟩
  have hok : okOf w0 blk w.heap.size := ⟨.inr hh.ext.size, fun k hk => by have := (hh.new k _ hk).2; omega⟩
  have hget : ∀ (j : Nat) (dj : D), X.cells[j]? = some dj → ∃ v, (a.eval x).cells[j]? = some v ∧ Rep w (okOf w0 blk) dj v := fun j dj hj => by
    obtain ⟨v, hv, h4⟩ := hL.at_ hj
    exact ⟨v, by simpa using hv, h4⟩
  refine Rep.pt X.cells 0 w.heap.size 0 (fun j => (a.eval x).cells.getD j undef) (heap_lt hblk) hok hs (fun j dj hj => ?_) fun j dj hj => ?_
  · obtain ⟨v, hv, _⟩ := hget j dj hj
    rw [cell_of_block hblk, Nat.zero_add, hv, getD_val hv]
  · obtain ⟨v, hv, h4⟩ := hget j dj hj
    rw [getD_val hv]
    exact h4.ext hE fun _ _ h => h
end
open Go Go.RowKit

section
variable {P : Program} {w0 : Cx} {n : Nat} {s : Nat → Site} {ev : Operand → T} {dst : Option Tmp} {ty : TypeId} {pos : String} {after : Array Edge} {g : Option (Nat × Bool)}
end
open Go Go.RowKit

section
variable {P : Program} {w0 : Cx}
end
open Go Go.RowKit

section
variable {P : Program} {w0 : Cx} {st : St}
end
section
variable {P : Program} {w0 : Cx} {n : Nat} {s : Nat → Site} {ev : Operand → T} {dst : Option Tmp} {ty : TypeId} {pos : String} {after : Array Edge} {g : Option (Nat × Bool)}
end

open Go Go.RowKit

def subV (sz lo hi : Nat) (u v : Value) : Prop :=
  (u = .slice none 0 0 ∧ v = .slice none 0 0 ∧ hi = 0 ∧ lo = 0) ∨
  ∃ b n cap, u = .slice (some ⟨b, 0, none⟩) n cap ∧ ((cap = lo ∧ hi = lo ∧ v = .slice (some ⟨b, 0, none⟩) 0 0) ∨ (lo < cap ∧ lo ≤ hi ∧ hi ≤ cap ∧ v = .slice (some ⟨b, lo * sz, none⟩) (hi - lo) (cap - lo)))
abbrev T.sub (k sz lo hi : Nat) : T := .own k ⟨true, true⟩ [] (fun _ u _ v => subV sz lo hi u v)
section
variable {P : Program} {w0 : Cx} {n : Nat} {s : Nat → Site} {ev : Operand → T} {dst : Option Tmp} {ty : TypeId} {pos : String} {after : Array Edge} {g : Option (Nat × Bool)}
end
section
variable {P : Program} {w0 : Cx} {ops : List Oper} {rest : List Oper} {R : Exit → St → Prop} {st : St} {ty : TypeId} {pos : String} {after : Array Edge}
end
section
variable {w0 : Cx} {st : St}
end
end Go.Proofs.YthpggoophcdgnaaDoor.Am
