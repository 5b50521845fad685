/- The abstract machine, part 20: the steps of the proof of a region with memory operations in any order. Conditions: none. -/
import Derived.Test.YtgdcidbpadhkpaaAm19
set_option linter.unusedVariables false
set_option linter.unusedSimpArgs false
namespace Go.Proofs.Ytgdcidbpadhkpaa.Am
open Go

section
variable {P : Program} {w0 : Cx} {st st' : St} {l os : List Oper} {n i : Nat} {e : Nat → T} {ks : List (Option Nat)} {z : Nat → Site} {K : St → Prop} {dst : Option Tmp} {op : Op} {ty : TypeId} {pos : String} {after : Array Edge}

theorem outM_none {o : Oper} {x : T} {zi : Site} {s : St} (hk : keyAt ks i = none) : outM ks i o x zi s = s.put o.dst (outX o x) := by unfold outM; rw [hk]
theorem outM_some {o : Oper} {x : T} {zi : Site} {s : St} {k : Nat} (hk : keyAt ks i = some k) : outM ks i o x zi s = (s.site k zi).put o.dst (outX o x) := by unfold outM; rw [hk]
theorem rgm_nil (h : K st') : RegWM P w0 st l n ks [] i e z st' K := h
theorem rgm_q {x : T} (hk : keyAt ks i = none) (hq : QOp P w0 st.n (sSee st l ks (updS z i .no) n i) (evSee st l n e ks (updS z i .no) i ⟨dst, op, ty, pos, after, none⟩ []) ⟨dst, op, ty, pos, after, none⟩ x)
    (h : RegWM P w0 st l n ks os (i + 1) (upd e i x) (updS z i .no) (st'.put dst x) K) : RegWM P w0 st l n ks (⟨dst, op, ty, pos, after, none⟩ :: os) i e z st' K :=
  ⟨x, .no, (fun j b h => by cases h), fun _ => .inl ⟨hk, .inl hq⟩, fun _ => hk, by rw [outM_none hk]; exact h⟩
theorem rgm_g {j : Nat} {b c : Bool} {x : T} {gs : List (Nat × Bool)} (hk : keyAt ks i = none) (hg : guardsOf l i = gs) (hc : e j = T.bool c)
    (hq : GH e gs → QOp P w0 st.n (sSee st l ks (updS z i .no) n i) (evSee st l n e ks (updS z i .no) i ⟨dst, op, ty, pos, after, some (j, b)⟩ gs) ⟨dst, op, ty, pos, after, some (j, b)⟩ x)
    (h : RegWM P w0 st l n ks os (i + 1) (upd e i x) (updS z i .no) (st'.put dst .dead) K) : RegWM P w0 st l n ks (⟨dst, op, ty, pos, after, some (j, b)⟩ :: os) i e z st' K :=
  ⟨x, .no, (fun j' b' h => by cases h; exact ⟨c, hc⟩), (fun hG => .inl ⟨hk, .inl (by subst hg; exact hq hG)⟩), fun _ => hk, by rw [outM_none hk]; exact h⟩
theorem rgm_m {k : Nat} {zi : Site} {x : T} (hk : keyAt ks i = some k) (hv : memN k (hidGo l ks i n) = false) (hs : siteGo st ks (updS z i zi) (ltB i) k n = sSee st l ks (updS z i zi) n i k)
    (hm : MOp P w0 st.n (sSee st l ks (updS z i zi) n i) (evSee st l n e ks (updS z i zi) i ⟨dst, op, ty, pos, after, none⟩ []) ⟨dst, op, ty, pos, after, none⟩ k zi x)
    (h : RegWM P w0 st l n ks os (i + 1) (upd e i x) (updS z i zi) ((st'.site k zi).put dst x) K) : RegWM P w0 st l n ks (⟨dst, op, ty, pos, after, none⟩ :: os) i e z st' K :=
  ⟨x, zi, (fun j b h => by cases h), fun _ => .inr ⟨k, hk, rfl, hv, hs, by rw [show updS z i zi i = zi from by simp [updS]]; exact hm⟩, (fun h => absurd rfl h), by rw [outM_some hk]; exact h⟩
end
section
variable {P : Program} {w0 : Cx} {n : Nat} {s : Nat → Site} {ev : Operand → T} {ty : TypeId} {pos : String} {after : Array Edge}
theorem live_ev {st : St} {y : Operand} {x : T} (hev : ∀ y, ev y = .dead ∨ st.ev y = ev y) (hy : ev y = x) (hx : x ≠ .dead) : st.ev y = x := by
  rcases hev y with e | e
  · rw [e] at hy; exact absurd hy.symm hx
  · rw [e]; exact hy
theorem m_alloc {d : Nat} {e : TypeId} {z : Value} (hz : zrB P e z) (h1 : z.cells.toList.all Value.oneCell' = true) (hs : s d = .no) : MOp P w0 n s ev ⟨some d, .alloc e, ty, pos, after, none⟩ d (.box (constD z)) (.ref d 0) :=
  fun st _ hk hn _ hd => step_of_aops rfl fun ops rest R h => aops_alloc hz h1 (by rw [Nat.blt_eq, hn]; exact hd d rfl) (hk.trans hs) h
theorem m_make {d : Nat} {t e sz b m : Nat} {z : Value} {l c : Operand} (ht : slB P t e sz = true) (hz : zrB P e z) (hb : byB P e b = true) (h1 : z.cells.toList.all Value.oneCell' = true) (hzs : z.cells.size = sz) (hl : ev l = T.i (m : Int)) (hc : ev c = T.i (m : Int))
    (hbm : b * m ≤ 281474976710656) (hm : m ≤ 9223372036854775807) (hs : s d = .no) : MOp P w0 n s ev ⟨some d, .makeSlice t l c, ty, pos, after, none⟩ d (.row e sz (List.replicate m (constD z))) (.rs d) :=
  fun st _ hk hn hev hd => step_of_aops rfl fun ops rest R h => aops_make ht hz hb h1 hzs (live_ev hev hl (by simp)) (live_ev hev hc (by simp)) hbm hm (by rw [Nat.blt_eq, hn]; exact hd d rfl) (hk.trans hs) h
theorem m_store {t : TypeId} {y x : Operand} {agg : Bool} {m k o : Nat} {X : D} {cs cs' : List D} (ht : szB P t agg m = true) (hy : ev y = .ref k o) (hx : ev x = .d X) (hX : X.sc = true ∨ ∃ cs, X = .agg cs) (hm : X.cells.length = m)
    (hk : s k = .box cs) (ho : o + m ≤ cs.length) (hcs : setCs cs o X.cells = cs') : MOp P w0 n s ev ⟨none, .store t y x, ty, pos, after, none⟩ k (.box cs') .dead :=
  fun st _ hk' _ hev _ => step_of_aops rfl fun ops rest R h => aops_store ht (live_ev hev hy (by simp)) (live_ev hev hx (by simp)) hX hm (hk'.trans hk) ho hcs h
end
end Go.Proofs.Ytgdcidbpadhkpaa.Am
