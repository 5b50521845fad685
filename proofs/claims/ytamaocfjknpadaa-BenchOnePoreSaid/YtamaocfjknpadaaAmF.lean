/- The abstract machine, parts 41 to 51. Conditions: none. -/
import Derived.MapKept
import Derived.RangeFuncRecord
import Derived.Test.YtamaocfjknpadaaAmE
set_option linter.unusedVariables false
set_option linter.unusedSimpArgs false
namespace Go.Proofs.Ytamaocfjknpadaa.Am
open Go Go.RowKit

section
variable {P : Program} {w0 : Cx} {ops : List Oper} {rest : List Oper} {R : Exit → St → Prop} {st : St} {ty : TypeId} {pos : String} {after : Array Edge}
theorem aops_append0 {d : Nat} {t e sz b m : Nat} {z : Value} {y x : Operand} {news : List (List D)} (ht : slB P t e sz = true) (hz : zrB P e z) (hb : byB P e b = true) (hzs : z.cells.size = sz) (hs0 : 0 < sz) (hy : st.ev y = .d .e0) (hx : st.ev x = .d (.sl sz news)) (hm : news.length = m) (hpos : 0 < m)
    (hbm : m * b ≤ 140737488355328) (hmax : m ≤ 9223372036854775807) (hd : Nat.blt d st.n = true) (hs : st.s d = .no) (h : Aops P w0 ops rest R ((st.site d (.row e sz news)).put (some d) (.rs d))) :
    Aops P w0 ops (⟨some d, .call ⟨.builtin .append, #[y, x], #[t, t]⟩, ty, pos, after, none⟩ :: rest) R st := by
  subst hm
  refine aops_step (K := fun s => s = (st.site d (.row e sz news)).put (some d) (.rs d)) rfl (fun a w ⟨blk, val, hh⟩ => ?_) (fun _ e => e ▸ h)
  obtain ⟨i, hi, hsi⟩ := slB_info ht
  obtain ⟨i', hi', hbi⟩ := byB_info hb
  rw [hi] at hi'; cases hi'
  obtain ⟨A0, hv0⟩ := e0_inv (show Rep w (okOf w0 blk) .e0 (a.eval y) by have := hh.ev y; rw [hy] at this; exact this)
  obtain ⟨A, cap', hxv, hnx, hcapx, hxs, hxsc, hxr⟩ := sl_inv (show Rep w (okOf w0 blk) (.sl sz news) (a.eval x) by have := hh.ev x; rw [hx] at this; exact this)
  rcases hxr with hnil | ⟨b', off, vs, hA, hb', hok', hc', hr'⟩
  · subst hnil; simp at hpos
  let nv : List Value := (List.range (news.length * sz)).map fun q => vs (q / sz) (q % sz)
  have hnvl : nv.length = news.length * i.size := by simp [nv, hsi]
  have hnv : ∀ q u, nv[q]? = some u → ∃ x d, news[q / sz]? = some x ∧ x[q % sz]? = some d ∧ u = vs (q / sz) (q % sz) := fun q u hq => by
    have hql : q < news.length * sz := by have := (List.getElem?_eq_some_iff.1 hq).1; rw [hnvl, hsi] at this; exact this
    have hqd : q / sz < news.length := Nat.div_lt_of_lt_mul (by rw [Nat.mul_comm]; exact hql)
    have hx0 := List.getElem?_eq_getElem hqd
    have hqm : q % sz < (news[q / sz]).length := by rw [hxs _ _ hx0]; exact Nat.mod_lt _ hs0
    simp [nv, hql] at hq
    exact ⟨_, _, hx0, List.getElem?_eq_getElem hqm, hq.symm⟩
  have hcells : ∀ q u, nv[q]? = some u → w.cell? ((⟨b', off, none⟩ : Addr).add q) = some u := fun q u hq => by
    obtain ⟨x, d, h1, h2, rfl⟩ := hnv q u hq
    have := hc' _ x _ d h1 h2
    rw [addr_add, show off + q = off + q / sz * sz + q % sz by have := Nat.div_add_mod q sz; rw [Nat.mul_comm] at this; omega]
    exact this
  have hbm' : news.length * i.bytes ≤ 140737488355328 := by rw [hbi]; exact hbm
  have hrun : ∃ k cs, k = grownCap w news.length 0 e ∧ cs = nv.toArray ++ Builtin.zeroCells z.cells (k - news.length) ∧ (Builtin.append_ #[t, t] ty #[a.eval y, a.eval x]).run P w = .ok (.slice (some ⟨w.heap.size, 0, none⟩) news.length k) (w.drew.alloc (.cells cs e)) := by
    rw [hv0, hxv, hA]
    cases A0 with
    | none =>
      have hr := run_append_nil (P := P) w t ty e i z (slB_under ht) hi (zrB_info hz hi) ⟨b', off, none⟩ news.length cap' nv hnvl hcells hpos (by omega) (by omega)
      exact ⟨_, _, rfl, rfl, hr⟩
    | some a0 =>
      have hr := run_append_grow (P := P) w t ty e i z (slB_under ht) hi (zrB_info hz hi) a0 0 0 [] (by simp) (fun j u hu => by simp at hu) ⟨b', off, none⟩ news.length cap' nv hnvl hcells (by omega) (by omega) (by
        rw [Nat.zero_add]; exact growslice_fits hpos hbm')
      simp only [Nat.zero_add, Array.empty_append] at hr
      exact ⟨_, _, rfl, rfl, hr⟩
  obtain ⟨k, cs, hk, hcs, hrun⟩ := hrun
  have hge : news.length ≤ k := by rw [hk]; exact grownCap_ge w _ 0 e
  have hkm : k ≤ maxLen := by rw [hk]; exact grownCap_le_maxLen w _ 0 e (by simp [maxLen]; omega)
  have hE0 : Ext w w.drew := (Ext.refl w).drew
  have hE : Ext w (w.drew.alloc (.cells cs e)) := hE0.alloc _
  have hsz : w.drew.heap.size = w.heap.size := rfl
  have hblk : (w.drew.alloc (.cells cs e)).heap[w.heap.size]? = some (.cells cs e (0, 0)) := heap_alloc_new w.drew _
  refine wp_value (v := .slice (some ⟨w.heap.size, 0, none⟩) news.length k) (w' := w.drew.alloc (.cells cs e)) (by simp [execOp, resolve, invoke, builtin, hrun]) ⟨_, rfl, ?_⟩
  have hH := (hh.ext' hE0).allocSite (k := d) (x := .row e sz news) (u := .slice (some ⟨w.heap.size, 0, none⟩) news.length k) (o := .cells cs e) hs ⟨hxs, hxsc, .inr ⟨w.heap.size, cs, k, by rw [hsz], rfl, hge, hkm, hblk, by rw [hcs]; simp [nv, Builtin.zeroCells, hzs]; rw [← Nat.add_mul]; congr 1; omega, fun j x q d hi hj => ?_⟩⟩
  · exact ⟨_, _, put_hold hH (by simpa [Nat.blt_eq, St.site] using hd) ⟨⟨e, sz, news, by simp [St.site]⟩, by simp⟩⟩
  · refine ⟨vs j q, ?_, (hr' j x q d hi hj).ext hE fun b hb h => ⟨h, by rw [hsz]; omega⟩⟩
    have hil := (List.getElem?_eq_some_iff.1 hi).1
    have hjl : q < sz := by have := (List.getElem?_eq_some_iff.1 hj).1; rw [hxs j x hi] at this; exact this
    have hq : j * sz + q < news.length * sz := mul_lt_of hil hjl
    have e1 : (j * sz + q) / sz = j := by rw [Nat.add_comm, Nat.add_mul_div_right _ _ hs0, Nat.div_eq_of_lt hjl, Nat.zero_add]
    have e2 : (j * sz + q) % sz = q := by rw [Nat.add_comm, Nat.add_mul_mod_self_right, Nat.mod_eq_of_lt hjl]
    rw [hcs, Array.getElem?_append_left (by simp [nv, hq])]
    simp [nv, hq, e1, e2]
end
section
variable {P : Program} {w0 : Cx} {n : Nat} {s : Nat → Site} {ev : Operand → T} {ty : TypeId} {pos : String} {after : Array Edge}
end
section
variable {P : Program} {w0 : Cx} {n : Nat} {s : Nat → Site} {ev : Operand → T} {dst : Option Tmp} {ty : TypeId} {pos : String} {after : Array Edge} {g : Option (Nat × Bool)}
theorem q_eqnil_v {t t' e' sz : TypeId} {x : Operand} {b : Bool} {A : Option Addr} {cap : Nat} (ht : slB P t e' sz = true) (hx : ev x = .d (.v (.slice A 0 cap))) (hb : A.isNone = b) : QOp P w0 n s ev ⟨dst, .binOp .eql t x (.const (.slice none 0 0)) t', ty, pos, after, g⟩ (T.bool b) :=
  .mk fun a w ok blk val h hs hnew => by
    have hv : a.eval x = .slice A 0 cap := RepT.v_eq (hx ▸ h x)
    refine ⟨.bool b, w, ?_, Ext.refl w, .v _ rfl⟩
    have hc : a.eval (.const (.slice none 0 0)) = .slice none 0 0 := rfl
    have hr : (binOp .eql t (.slice A 0 cap) (.slice none 0 0)).run P w = .ok (.bool b) w := by
      subst hb
      simp only [binOp]
      simp [Op.equal, Op.maxDepth, Lib.run_equalIn_slice_nil w 9999 t e' A 0 cap 0 0 (slB_under ht)]
    simp [execOp, hv, hc, eqGuard, hr]
theorem q_append0v {t e sz cap : Nat} {z : Value} {A : Option Addr} {y x : Operand} (ht : slB P t e sz = true) (hz : zrB P e z) (hy : ev y = .d .e0) (hx : ev x = .d (.v (.slice A 0 cap))) : QOp P w0 n s ev ⟨dst, .call ⟨.builtin .append, #[y, x], #[t, t]⟩, ty, pos, after, g⟩ (.d (.sl sz [])) :=
  .mk fun a w ok blk val h _ hnew => by
    obtain ⟨i, hi, hsi⟩ := slB_info ht
    obtain ⟨A0, hv0⟩ := e0_inv (show Rep w ok .e0 (a.eval y) by have := h y; rw [hy] at this; exact this)
    have hxv : a.eval x = .slice A 0 cap := RepT.v_eq (hx ▸ h x)
    have hrun : (Builtin.append_ #[t, t] ty #[a.eval y, a.eval x]).run P w = .ok (.slice A0 0 0) w := by
      rw [hv0, hxv]
      cases A0 with
      | none => cases A <;> simp [Builtin.append_, run_underlying (slB_under ht), sizeOf, my_typeInfo hi, Builtin.lenOf, Builtin.firstCells, loadCells, loadCellsFrom]
      | some a0 => cases A <;> simp [Builtin.append_, run_underlying (slB_under ht), sizeOf, my_typeInfo hi, Builtin.lenOf, Builtin.firstCells, loadCells, loadCellsFrom, storeCells]
    exact ⟨.slice A0 0 0, w, by simp [execOp, resolve, invoke, builtin, hrun], Ext.refl w, Rep.emp _ _ _ (Nat.zero_le _)⟩
end
theorem pc_empty {P : Program} {f : FuncId} {sz : Nat} {r : D} (h : ∀ (A : Option Addr) (cap : Nat), PC P f [.v (.slice A 0 cap)] r) : PC P f [.sl sz []] r := by
  intro w ok vs hL
  obtain ⟨v, rfl⟩ : ∃ v, vs = [v] := by
    match vs, hL with
    | [v], _ => exact ⟨v, rfl⟩
  obtain ⟨A, cap, hv, _⟩ := sl_inv hL.1
  subst hv
  exact h A cap w ok _ ⟨.v _ rfl, trivial⟩
open Go Go.RowKit

section
variable {P : Program} {w0 : Cx} {n : Nat} {s : Nat → Site} {ev : Operand → T} {ty : TypeId} {pos : String} {after : Array Edge}
theorem m_storeR {t : TypeId} {y x : Operand} {k o j : Nat} {cs : List D} {ts : List T} (ht : szB P t false 1 = true) (hy : ev y = .ref k o) (hx : ev x = .rs j) (hk : s k = .box cs) (ho : o + 1 ≤ cs.length) (hts : setTs (cs.map T.d) o [.rs j] = ts) :
    MOp P w0 n s ev ⟨none, .store t y x, ty, pos, after, none⟩ k (.tbox ts) .dead :=
  fun st _ hk' _ hev _ => step_of_aops rfl fun ops rest R h => aops_le (le_tbox (hk'.trans hk) rfl) (aops_storeT (z := .rs j) (k := k) (cs := cs.map T.d) ht (by have := live_ev hev hy (by simp); cases y <;> exact this) (by have := live_ev hev hx (by simp); cases x <;> exact this) rfl (by show (bif Nat.beq k k then _ else _) = _; rw [Nat.beq_refl]; rfl) (by rw [List.length_map]; exact ho) hts (by rw [site_site]; exact h))
end
section
variable {P : Program} {w0 : Cx} {n : Nat} {s : Nat → Site} {ev : Operand → T} {dst : Option Tmp} {ty : TypeId} {pos : String} {after : Array Edge} {g : Option (Nat × Bool)}
end
open Go Go.RowKit

def mapF : Option Nat → Value → List Value → Value → Prop := fun b _ _ v => ∃ b', b = some b' ∧ v = .map (some b')
abbrev T.mp (k : Nat) : T := .own k ⟨false, true⟩ [] mapF
section
variable {P : Program} {w0 : Cx} {n : Nat} {s : Nat → Site} {ev : Operand → T} {dst : Option Tmp} {ty : TypeId} {pos : String} {after : Array Edge} {g : Option (Nat × Bool)}
end
section
variable {P : Program} {w0 : Cx} {st : St} {ops rest : List Oper} {R : Exit → St → Prop} {ty : TypeId} {pos : String} {after : Array Edge}
end
open Go Go.RowKit

def mk (U : Tmp → Bool) (S : St) : St := { n := S.n, t := fun t => bif U t then .dead else S.t t, s := S.s }
section
variable {P : Program} {w0 : Cx}
end
section
variable {P : Program} {w0 : Cx} {S s : St} {ev : Operand → T} {l os : List Oper} {n : Nat} {Fl is : List Nat} {K : St → Prop} {dst : Option Tmp} {op : Op} {ty : TypeId} {pos : String} {after : Array Edge}
end
open Go Go.RowKit

section
variable {P : Program} {w0 : Cx} {n : Nat} {s : Nat → Site} {ev : Operand → T} {dst : Option Tmp} {ty : TypeId} {pos : String} {after : Array Edge} {g : Option (Nat × Bool)}
end
section
variable {P : Program} {w0 : Cx} {st : St} {a : Act} {w A B : World} {blk : Nat → Option Nat} {val : Nat → Value} {Y : Nat → Prop}
end
section
variable {P : Program} {w0 : Cx} {st : St} {a : Act} {w : World} {blk : Nat → Option Nat} {val : Nat → Value}
end
section
variable {P : Program} {α σ : Type} {J : (Nat → Prop) → σ → World → Prop} {c : Cx} {st : St} {s : σ}
end
open Go Go.RowKit

section
variable {P : Program} {w0 : Cx} {n : Nat} {s : Nat → Site} {ev : Operand → T} {dst : Option Tmp} {ty : TypeId} {pos : String} {after : Array Edge} {g : Option (Nat × Bool)}
end
open Go Go.RowKit

section
variable {P : Program} {w0 : Cx} {n : Nat} {s : Nat → Site} {ev : Operand → T} {dst : Option Tmp} {ty : TypeId} {pos : String} {after : Array Edge} {g : Option (Nat × Bool)}
end
section
variable {H : Type} {enc : TypeId × Value → H} {P : Program} {w : World} {base : Nat} {spare : Nat → Bool} {held : Bool}
end
open Go Go.RowKit
section
variable {P : Program} {w0 : Cx} {n : Nat} {s : Nat → Site} {ev : Operand → T} {dst : Option Tmp} {ty : TypeId} {pos : String} {after : Array Edge} {g : Option (Nat × Bool)}
end
open Go Go.RowKit
section
variable {P : Program} {w0 : Cx} {n : Nat} {s : Nat → Site} {ev : Operand → T} {dst : Option Tmp} {ty : TypeId} {pos : String} {after : Array Edge} {g : Option (Nat × Bool)}
end
open Go Go.RowKit
def tpF (o : Nat) : Option Nat → Value → List Value → Value → Prop := fun b _ vs v => ∃ b', b = some b' ∧ v = .tuple (Value.pointer (some ⟨b', o, none⟩) :: vs).toArray
abbrev T.tp (k o : Nat) (ds : List D) : T := .own k ⟨false, false⟩ ds (tpF o)
section
variable {P : Program}
end
section
variable {P : Program} {w0 : Cx} {n : Nat} {s : Nat → Site} {ev : Operand → T} {dst : Option Tmp} {ty : TypeId} {pos : String} {after : Array Edge} {g : Option (Nat × Bool)}
end
open Go Go.RowKit
section
variable {P : Program} {w0 : Cx} {st : St} {a : Act} {w A B : World} {blk : Nat → Option Nat} {val : Nat → Value} {Y : Nat → Prop}
end
section
variable {P : Program} {w0 : Cx} {n : Nat} {s : Nat → Site} {ev : Operand → T} {dst : Option Tmp} {ty : TypeId} {pos : String} {after : Array Edge} {g : Option (Nat × Bool)}
end
section
variable {P : Program} {α : Type}
end
end Go.Proofs.Ytamaocfjknpadaa.Am
