/- The abstract machine, parts 36 to 40. Conditions: none. -/
import Derived.Laws.CopyRow
import Derived.Test.YtcdccdcbfbakfaaGreatDoorAmD
set_option linter.unusedVariables false
set_option linter.unusedSimpArgs false
namespace Go.Proofs.YtcdccdcbfbakfaaGreatDoor.Am
open Go Go.RowKit

section
variable {P : Program} {w0 : Cx} {ops : List Oper} {rest : List Oper} {R : Exit → St → Prop} {st : St} {ty : TypeId} {pos : String} {after : Array Edge}
theorem Ext.newRow {w : World} {o : Obj} {cs : Array Value} : Ext w ((w.alloc o).setRow w.heap.size cs) := by
  have h := (Ext.refl w).alloc o
  exact ⟨h.os, h.tape, h.output, by rw [setRow_size]; exact h.size, fun k hk => by rw [setRow_block (by omega)]; exact h.block k hk⟩
theorem aops_allocD {d : Nat} {e t : TypeId} {agg : Bool} {m : Nat} {z : Value} {x : Operand} {X : D} {ty' : TypeId} {pos' : String} {after' : Array Edge} (hz : zrB P e z) (hzs : z.cells.size = m) (ht : szB P t agg m = true) (hxd : (match x with | .tmp q => Nat.beq q d | _ => false) = false) (hx : st.ev x = .d X) (hX : X.sc = true ∨ ∃ cs, X = .agg cs) (hm : X.cells.length = m)
    (hd : Nat.blt d st.n = true) (h : Aops P w0 ops rest R (st.put (some d) (.d (.pt X.cells 0)))) :
    Aops P w0 ops (⟨some d, .alloc e, ty, pos, after, none⟩ :: ⟨none, .store t (.tmp d) x, ty', pos', after', none⟩ :: rest) R st := by
  intro F mm hF a w ⟨blk, val, hh⟩
  rw [Nat.blt_eq] at hd
  unfold wpListIn
  rw [if_pos (by simp [Region.wanted])]
  refine (wp_value (v := .pointer (some ⟨w.heap.size, 0, none⟩)) (w' := w.alloc (.cells z.cells e)) (by simp [execOp, Instr.alloc, run_zero hz, newVar, newRow]) (K := fun a' w' => a' = a.put (some d) (.pointer (some ⟨w.heap.size, 0, none⟩)) ∧ w' = w.alloc (.cells z.cells e)) ⟨rfl, rfl⟩).to hF ?_
  intro a2 w2 h2
  rw [h2.1, h2.2]
  unfold wpListIn
  rw [if_pos (by simp [Region.wanted])]
  have hs1 : d < a.tmps.size := by rw [hh.size]; exact hd
  have hev : (a.put (some d) (.pointer (some ⟨w.heap.size, 0, none⟩))).eval (.tmp d) = .pointer (some ⟨w.heap.size, 0, none⟩) := by simp [Act.eval, Act.put, hs1]
  have hevx : (a.put (some d) (.pointer (some ⟨w.heap.size, 0, none⟩))).eval x = a.eval x := by
    cases x with
    | tmp q =>
      have hq : q ≠ d := fun e => by subst e; simp at hxd
      simp [Act.eval, Act.put, Ne.symm hq]
    | _ => rfl
  have hr : Rep w (okOf w0 blk) X (a.eval x) := by have := hh.ev x; rw [hx] at this; exact this
  obtain ⟨hL, hs⟩ := cells_inv hr hX
  have hcl : (a.eval x).cells.size = m := by rw [← hm, ← hL.length, Array.length_toList]
  have hheap : (w.alloc (.cells z.cells e)).heap[w.heap.size]? = some (.cells z.cells e (0, 0)) := new_block _ _
  have hrun := run_storeAt (P := P) (o := 0) (v := a.eval x) ht hcl hheap (by omega) (hL.mem hs)
  have hcs : (z.cells.toList.take 0 ++ (a.eval x).cells.toList ++ z.cells.toList.drop (0 + m)).toArray = (a.eval x).cells := by
    rw [List.take_zero, List.nil_append, Nat.zero_add, List.drop_of_length_le (by rw [Array.length_toList]; omega), List.append_nil]
  rw [hcs] at hrun
  have hE : Ext w ((w.alloc (.cells z.cells e)).setRow w.heap.size (a.eval x).cells) := Ext.newRow
  have hblk : ((w.alloc (.cells z.cells e)).setRow w.heap.size (a.eval x).cells).heap[w.heap.size]? = some (.cells (a.eval x).cells e (0, 0)) := setRow_same hheap
  refine (show OW P w0 _ _ _ (fun a' w' => a' = a.put (some d) (.pointer (some ⟨w.heap.size, 0, none⟩)) ∧ w' = (w.alloc (.cells z.cells e)).setRow w.heap.size (a.eval x).cells) from ow_of_wp (fun c hc => by cases hc) (by
    unfold Oper.wp
    rw [show (execOp (a.put (some d) (.pointer (some ⟨w.heap.size, 0, none⟩))).eval ⟨none, .store t (.tmp d) x, ty', pos', after', none⟩).run P (w.alloc (.cells z.cells e)) = .ok .skip ((w.alloc (.cells z.cells e)).setRow w.heap.size (a.eval x).cells) by simp [execOp, hev, hevx, hrun]]
    exact ⟨rfl, rfl⟩)).to hF ?_
  intro a3 w3 h3
  rw [h3.1, h3.2]
  refine h F mm hF _ _ ⟨blk, val, put_hold (hh.ext' hE) hd ?_⟩
  have hok : okOf w0 blk w.heap.size := ⟨.inr hh.ext.size, fun k hk => by have := (hh.new k _ hk).2; omega⟩
  have hget : ∀ (j : Nat) (dj : D), X.cells[j]? = some dj → ∃ v, (a.eval x).cells[j]? = some v ∧ Rep w (okOf w0 blk) dj v := fun j dj hj => by
    obtain ⟨v, hv, h4⟩ := hL.at_ hj
    exact ⟨v, by simpa using hv, h4⟩
  refine Rep.pt X.cells 0 w.heap.size 0 (fun j => (a.eval x).cells.getD j undef) (heap_lt hblk) hok hs (fun j dj hj => ?_) fun j dj hj => ?_
  · obtain ⟨v, hv, _⟩ := hget j dj hj
    rw [cell_of_block hblk, Nat.zero_add, hv, getD_val hv]
  · obtain ⟨v, hv, h4⟩ := hget j dj hj
    rw [getD_val hv]
    exact h4.ext hE fun _ _ h => h
end
open Go Go.RowKit

section
variable {P : Program} {w0 : Cx} {n : Nat} {s : Nat → Site} {ev : Operand → T} {dst : Option Tmp} {ty : TypeId} {pos : String} {after : Array Edge} {g : Option (Nat × Bool)}
theorem q_slicePP {t : TypeId} {y : Operand} {l h : Option Operand} {m e lo hi : Nat} {cs : List D} {es : List (List D)} (ht : arB P t m e 1 = true) (hy : ev y = .d (.pt cs 0)) (hm : cs.length = m) (hmx : m ≤ maxLen) (hl : boundOk ev l 0 lo) (hh : boundOk ev h m hi) (h1 : lo ≤ hi) (h2 : hi ≤ m) (h3 : lo < m)
    (hes : ((cs.take hi).drop lo).map (fun d => [d]) = es) : QOp P w0 n s ev ⟨dst, .slice t y l h none, ty, pos, after, g⟩ (.d (.sl 1 es)) :=
  .mk fun a w ok blk val hev _ hnew => by
    subst hes
    obtain ⟨b, of, vs, hv, hb, hok, hs, hc, hr⟩ := pt_inv (show Rep w _ (.pt cs 0) (a.eval y) by have := hev y; rw [hy] at this; exact this)
    have hbd := run_bounds (P := P) (cap := m) hev hl hh h1 h2 (Nat.le_refl _) false (w := w)
    have hln : (((cs.take hi).drop lo).map fun d => [d]).length = hi - lo := by rw [List.length_map, List.length_drop, List.length_take]; omega
    have at_ : ∀ (i : Nat) (x : List D) (j : Nat) (d : D), (((cs.take hi).drop lo).map fun d => [d])[i]? = some x → x[j]? = some d → cs[lo + i]? = some d ∧ j = 0 := by
      intro i x j d h1 h2
      rw [List.getElem?_map, Option.map_eq_some_iff] at h1
      obtain ⟨p, hp, rfl⟩ := h1
      rw [List.getElem?_drop, List.getElem?_take] at hp
      split at hp
      · match j, h2 with
        | 0, h2 => cases h2; exact ⟨hp, rfl⟩
      · cases hp
    have hR := Rep.sl (w := w) (ok := ok) 1 (((cs.take hi).drop lo).map fun d => [d]) b (of + lo) (m - lo) (fun i _ => vs (lo + i)) hb hok (by rw [hln]; omega) (by omega) (fun i x h1 => by
        rw [List.getElem?_map, Option.map_eq_some_iff] at h1
        obtain ⟨p, hp, rfl⟩ := h1; rfl)
      (fun i x j d h1 h2 => hs _ d (at_ i x j d h1 h2).1) (fun i x j d h1 h2 => by
        obtain ⟨q1, rfl⟩ := at_ i x j d h1 h2
        rw [Nat.mul_one, Nat.add_zero, Nat.add_assoc]; exact hc _ d q1) (fun i x j d h1 h2 => hr _ d (at_ i x j d h1 h2).1)
    rw [hln] at hR
    refine ⟨_, w, ?_, Ext.refl w, hR⟩
    obtain ⟨inf, hi', hsz⟩ := arB_info ht
    have hne : ¬ m = lo := by omega
    simp only [execOp, Instr.sliceAt, Sem.run_bind, run_underlying (arB_under ht), Result.andThen_ok, hv, Instr.sureAddr, Sem.run_pure, Option.map_none, hbd, sizeOf, my_typeInfo hi', if_neg hne, addr_add, hsz, Nat.mul_one, Nat.add_zero]
theorem q_toArr {t : TypeId} {x : Operand} {m e sz : Nat} {cs : List D} {es : List (List D)} (ht : arB P t m e sz = true) (hx : ev x = .d (.sl 1 es)) (hes : es = cs.map fun d => [d]) (hm : cs.length = m) (h0 : 0 < m) : QOp P w0 n s ev ⟨dst, .sliceToArrayPointer t x, ty, pos, after, g⟩ (.d (.pt cs 0)) :=
  .mk fun a w ok blk val hev _ hnew => by
    subst hes
    obtain ⟨A, cap, hv, hn, hcap, hsz, hs, hrest⟩ := sl_inv (show Rep w ok (.sl 1 (cs.map fun d => [d])) (a.eval x) by have := hev x; rw [hx] at this; exact this)
    have hl : (cs.map fun d => [d]).length = m := by rw [List.length_map]; exact hm
    rcases hrest with he | ⟨b, off, vs, rfl, hb, hok, hc, hr⟩
    · rw [he] at hl; simp at hl; omega
    · have at_ : ∀ (j : Nat) (d : D), cs[j]? = some d → (cs.map fun d => [d])[j]? = some [d] := fun j d h => by rw [List.getElem?_map, h]; rfl
      have hR := Rep.pt (w := w) (ok := ok) cs 0 b off (fun j => vs j 0) hb hok (fun j d h => hs j [d] 0 d (at_ j d h) rfl) (fun j d h => by
        have := hc j [d] 0 d (at_ j d h) rfl
        rwa [Nat.mul_one, Nat.add_zero] at this) (fun j d h => hr j [d] 0 d (at_ j d h) rfl)
      refine ⟨_, w, ?_, Ext.refl w, hR⟩
      have hlt : ¬ (cs.map fun d => [d]).length < m := by omega
      simp only [execOp, Instr.arrayAt, Sem.run_bind, run_underlying (arB_under ht), Result.andThen_ok, hv, Sem.run_ite, if_neg hlt, Sem.run_pure, Nat.add_zero]
end
open Go Go.RowKit

section
variable {P : Program} {w0 : Cx}
end
open Go Go.RowKit

section
variable {P : Program} {w0 : Cx} {st : St}
end
section
variable {P : Program} {w0 : Cx} {n : Nat} {s : Nat → Site} {ev : Operand → T} {dst : Option Tmp} {ty : TypeId} {pos : String} {after : Array Edge} {g : Option (Nat × Bool)}
end

open Go Go.RowKit

def subV (sz lo hi : Nat) (u v : Value) : Prop :=
  (u = .slice none 0 0 ∧ v = .slice none 0 0 ∧ hi = 0 ∧ lo = 0) ∨
  ∃ b n cap, u = .slice (some ⟨b, 0, none⟩) n cap ∧ ((cap = lo ∧ hi = lo ∧ v = .slice (some ⟨b, 0, none⟩) 0 0) ∨ (lo < cap ∧ lo ≤ hi ∧ hi ≤ cap ∧ v = .slice (some ⟨b, lo * sz, none⟩) (hi - lo) (cap - lo)))
abbrev T.sub (k sz lo hi : Nat) : T := .own k ⟨true, true⟩ [] (fun _ u _ v => subV sz lo hi u v)
section
variable {P : Program} {w0 : Cx} {n : Nat} {s : Nat → Site} {ev : Operand → T} {dst : Option Tmp} {ty : TypeId} {pos : String} {after : Array Edge} {g : Option (Nat × Bool)}
end
section
variable {P : Program} {w0 : Cx} {ops : List Oper} {rest : List Oper} {R : Exit → St → Prop} {st : St} {ty : TypeId} {pos : String} {after : Array Edge}
end
section
variable {w0 : Cx} {st : St}
end
end Go.Proofs.YtcdccdcbfbakfaaGreatDoor.Am
