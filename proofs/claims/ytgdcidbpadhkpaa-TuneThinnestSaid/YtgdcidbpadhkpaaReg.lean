/- A region that draws its order, walked once: operations that yield one value in every world of a class may be taken first, whatever they call; an operation that yields a value of its own making (a new block) is met when nothing else may come up; the last operations may write. Conditions: none. -/
import Derived.StillTail
import Derived.Below
import Derived.KernelRfl
set_option linter.unusedVariables false
set_option linter.unusedSimpArgs false
namespace Go.Proofs.Ytgdcidbpadhkpaa
open Go.RowKit

/-- All blocks that stood in w stand in w' as they were. -/
def Ext (w w' : World) : Prop := Below w.heap.size w w'
theorem Ext.refl (w : World) : Ext w w := Below.refl _ _
theorem Ext.trans {a b c : World} (h : Ext a b) (k : Ext b c) : Ext a c := Below.trans h (Below.mono k h.size)
theorem Ext.drew {a w : World} (h : Ext a w) : Ext a w.drew := Below.drew h
theorem Ext.alloc {a w : World} (h : Ext a w) (o : Obj) : Ext a (w.alloc o) := Below.alloc h h.size o
theorem Ext.size {a w : World} (h : Ext a w) : a.heap.size ≤ w.heap.size := Below.size h
theorem cell_lt {w : World} {p : Addr} {v : Value} (h : w.cell? p = some v) : p.block < w.heap.size := by
  unfold World.cell? at h
  rcases Nat.lt_or_ge p.block w.heap.size with hl | hl
  · exact hl
  · rw [Array.getElem?_eq_none hl] at h; cases h
theorem Ext.cell {w w' : World} (h : Ext w w') {p : Addr} {v : Value} (hc : w.cell? p = some v) : w'.cell? p = some v :=
  (Below.cell h (cell_lt hc)).trans hc
theorem Ext.fz {w w' : World} (h : Ext w w') {p : Addr} {b : Bool} (hp : p.block < w.heap.size) (hf : w.frozen? p = b) : w'.frozen? p = b :=
  (Below.frozen h hp).trans hf
theorem Ext.set {a w : World} (h : Ext a w) {p : Addr} (hp : a.heap.size ≤ p.block) (u : Value) : Ext a (w.setCell p u) := Below.setCell h hp u
theorem Ext.heap {w w' : World} (h : Ext w w') {g : Nat} {o : Obj} (hc : w.heap[g]? = some o) : w'.heap[g]? = some o := by
  have hg : g < w.heap.size := by
    rcases Nat.lt_or_ge g w.heap.size with hl | hl
    · exact hl
    · rw [Array.getElem?_eq_none hl] at hc; cases hc
  exact (Below.block h g hg).trans hc

/-- A block of two cells of the call's own, that may be written. -/
structure Blk2 (W : World) (g : Nat) (a b : Value) : Prop where
  c0 : W.cell? ⟨g, 0, none⟩ = some a
  c1 : W.cell? ⟨g, 1, none⟩ = some b
  f0 : W.frozen? ⟨g, 0, none⟩ = false
  f1 : W.frozen? ⟨g, 1, none⟩ = false
  lt : g < W.heap.size
theorem Blk2.ext {w w' : World} {g : Nat} {a b : Value} (h : Blk2 w g a b) (hE : Ext w w') : Blk2 w' g a b :=
  ⟨hE.cell h.c0, hE.cell h.c1, hE.fz h.lt h.f0, hE.fz h.lt h.f1, Nat.lt_of_lt_of_le h.lt hE.size⟩
theorem Blk2.new (w : World) (a b : Value) (t : TypeId) : Blk2 (w.alloc (.cells #[a, b] t)) w.heap.size a b :=
  ⟨by simp, by simp, by simp, by simp, by simp⟩
theorem Ext.alloc' {w w' : World} {o : Obj} (h : Ext (w.alloc o) w') : Ext w w' := ((Ext.refl w).alloc o).trans h

theorem Blk2.put {w : World} {g : Nat} {a b : Value} (h : Blk2 w g a b) (u v : Value) : Blk2 ((w.setCell ⟨g, 0, none⟩ u).setCell ⟨g, 1, none⟩ v) g u v := by
  have h0 : (w.setCell ⟨g, 0, none⟩ u).cell? ⟨g, 0, none⟩ = some u := World.cell?_setCell_same _ _ _ h.c0
  have h1 : (w.setCell ⟨g, 0, none⟩ u).cell? ⟨g, 1, none⟩ = some b := (World.cell?_setCell_other _ _ _ _ (by simp)).trans h.c1
  exact ⟨(World.cell?_setCell_other _ _ _ _ (by simp)).trans h0, World.cell?_setCell_same _ _ _ h1, by simp [h.f0], by simp [h.f1], by simpa using h.lt⟩
theorem put2_far {w : World} {g : Nat} {p : Addr} {x : Value} (h : w.cell? p = some x) (hp : p.block ≠ g) (u v : Value) (i j : Nat) : ((w.setCell ⟨g, i, none⟩ u).setCell ⟨g, j, none⟩ v).cell? p = some x :=
  (World.cell?_setCell_other _ _ _ _ (fun e => hp (by rw [← e]))).trans ((World.cell?_setCell_other _ _ _ _ (fun e => hp (by rw [← e]))).trans h)
theorem Ext.put2 {w W : World} (h : Ext w W) {g i j : Nat} (hg : w.heap.size ≤ g) (u v : Value) : Ext w ((W.setCell ⟨g, i, none⟩ u).setCell ⟨g, j, none⟩ v) := (h.set hg u).set hg v

section
variable {P : Program} {ops : Array Oper} {md : Region.Mode} {R : World → World → Prop}

def Stable (R : World → World → Prop) (C : World → Prop) : Prop := ∀ w w', R w w' → C w → C w'

/-- What is asked of what an operation yields: a value, nothing, or what a call hands back. -/
def yieldsUpon (P : Program) (Ψ : Value → World → Prop) : Result Next → Prop
  | .ok (.value u) w' => Ψ u w'
  | .ok .skip w' => Ψ undef w'
  | .ok (.enter f args) w' => Calls P f args w' (fun e w'' => ∃ u, e = .returned u ∧ Ψ u w'')
  | _ => False
attribute [go_sem] yieldsUpon
def yieldsC (P : Program) (o : Oper) (a : Act) (w : World) (Ψ : Value → World → Prop) : Prop := yieldsUpon P Ψ ((execOp a.eval o).run P w)

attribute [go_sem] yieldsC

theorem wp_of_yieldsC {o : Oper} {a : Act} {w : World} {Ψ : Value → World → Prop} {K : Act → World → Prop} {Q : Exit → Act → World → Prop}
    (h : yieldsC P o a w Ψ) (hK : ∀ v w', Ψ v w' → K (a.put o.dst v) w') : o.wp P a w K Q := by
  unfold yieldsC at h
  unfold Oper.wp
  generalize (execOp a.eval o).run P w = r at *
  cases r with
  | ok n w' =>
    cases n <;> simp only [yieldsUpon] at h <;> simp only [Oper.upon]
    case value u => exact hK _ _ h
    case skip => exact hK _ _ h
    case enter f args => exact h.mono fun e w'' ⟨u, he, hu⟩ => by subst he; exact hK _ _ hu
  | halt x w' => simp only [yieldsUpon] at h

/-- Operation i in class C: a value with Φ in every world of the class, behind it the class with Φ. -/
def opC (P : Program) (ops : Array Oper) (R : World → World → Prop) (i : Nat) (K : (World → Prop) → Act → Prop) (C : World → Prop) (a : Act) : Prop :=
  match ops[i]? with
  | none => False
  | some o => if Region.wanted o (yielded ops a.tmps) then
      ∃ Φ : Value → World → Prop, (∀ v, Stable R (Φ v)) ∧ (∀ w, C w → yieldsC P o a w (fun v w' => R w w' ∧ Φ v w')) ∧ ∀ v, (∃ w, Φ v w) → K (fun w => C w ∧ Φ v w) (a.put o.dst v)
    else K C (a.put o.dst undef)

def wpCL (P : Program) (md : Region.Mode) (ops : Array Oper) (R : World → World → Prop) (n : Nat) (L : Array Bool → (World → Prop) → Act → Prop) : Nat → Array Bool → (World → Prop) → Act → Prop
  | 0, listed, C, a => L listed C a
  | f + 1, listed, C, a => Region.ready md ops listed ≠ [] ∧ ∀ i ∈ Region.ready md ops listed, i < n ∧ opC P ops R i (wpCL P md ops R n L f (listed.setIfInBounds i true)) C a

theorem opC_mono {i : Nat} {K K' : (World → Prop) → Act → Prop} {C : World → Prop} {a : Act} (h : ∀ C a, K C a → K' C a) (hh : opC P ops R i K C a) : opC P ops R i K' C a := by
  unfold opC at *
  split
  · rename_i ho; simp only [ho] at hh
  · rename_i o ho
    simp only [ho] at hh
    split
    · rename_i hw
      simp only [hw, if_true] at hh
      obtain ⟨Φ, h1, h2, h3⟩ := hh
      exact ⟨Φ, h1, h2, fun v hv => h _ _ (h3 v hv)⟩
    · rename_i hw; simp only [hw] at hh; exact h _ _ hh

theorem wpAny_of_CL {n g : Nat} {L : Array Bool → (World → Prop) → Act → Prop} {Q : Exit → Act → World → Prop}
    (hL : ∀ listed C a, L listed C a → ∀ w, C w → wpAny P md ops Q g listed a w) :
    ∀ (f : Nat) (listed : Array Bool) (C : World → Prop) (a : Act), Stable R C → wpCL P md ops R n L f listed C a → ∀ w, C w → wpAny P md ops Q (f + g) listed a w
  | 0, listed, C, a, _, h, w, hw => by rw [Nat.zero_add]; exact hL _ _ _ h w hw
  | f + 1, listed, C, a, hC, h, w, hw => by
    rw [show f + 1 + g = (f + g) + 1 by omega]
    refine ⟨fun h0 => absurd h0 h.1, fun i hi => ?_⟩
    have h1 := (h.2 i hi).2
    unfold opC at h1
    unfold wpOp
    cases ho : ops[i]? with
    | none => simp only [ho] at h1
    | some o =>
      simp only [ho] at h1 ⊢
      split
      · rename_i hwa
        simp only [hwa, if_true] at h1
        obtain ⟨Φ, s1, s2, s3⟩ := h1
        refine .inl (wp_of_yieldsC (s2 w hw) fun v w' ⟨hr, hp⟩ => ?_)
        exact wpAny_of_CL hL f _ _ _ (fun x y hxy hx => ⟨hC x y hxy hx.1, s1 v x y hxy hx.2⟩) (s3 v ⟨w', hp⟩) w' ⟨hC _ _ hr hw, hp⟩
      · rename_i hwa
        simp only [hwa] at h1
        exact wpAny_of_CL hL f _ _ _ hC h1 w hw

/-- One value in every world of the class. -/
def Exact (P : Program) (ops : Array Oper) (R : World → World → Prop) (C : World → Prop) (o : Oper) (v : Value) (a : Act) : Prop :=
  (Region.wanted o (yielded ops a.tmps) = true ∧ ∀ w, C w → yieldsC P o a w (fun u w' => u = v ∧ R w w')) ∨ (Region.wanted o (yielded ops a.tmps) = false ∧ v = undef)

theorem yieldsC_mono {o : Oper} {a : Act} {w : World} {Ψ Ψ' : Value → World → Prop} (h : yieldsC P o a w Ψ) (hh : ∀ v w', Ψ v w' → Ψ' v w') : yieldsC P o a w Ψ' := by
  unfold yieldsC at *
  generalize (execOp a.eval o).run P w = r at *
  cases r with
  | ok n w' =>
    cases n <;> simp only [yieldsUpon] at h ⊢
    case value u => exact hh _ _ h
    case skip => exact hh _ _ h
    case enter f args => exact h.mono fun e w'' ⟨u, he, hu⟩ => ⟨u, he, hh _ _ hu⟩
  | halt x w' => simp only [yieldsUpon] at h

theorem yieldsC_congr {o : Oper} {a a' : Act} {w : World} {Ψ : Value → World → Prop} (he : execOp a'.eval o = execOp a.eval o) (h : yieldsC P o a w Ψ) : yieldsC P o a' w Ψ := by
  unfold yieldsC at *; rw [he]; exact h

theorem Exact.of_same {C : World → Prop} {o : Oper} {v : Value} {a a' : Act} (hy : Exact P ops R C o v a) (he : execOp a'.eval o = execOp a.eval o)
    (hw : Region.wanted o (yielded ops a'.tmps) = Region.wanted o (yielded ops a.tmps)) : Exact P ops R C o v a' := by
  unfold Exact at *
  rw [hw]
  exact hy.imp (fun ⟨h1, h2⟩ => ⟨h1, fun w hc => yieldsC_congr he (h2 w hc)⟩) id

theorem Exact.sub {C C' : World → Prop} {o : Oper} {v : Value} {a : Act} (hy : Exact P ops R C o v a) (h : ∀ w, C' w → C w) : Exact P ops R C' o v a :=
  hy.imp (fun ⟨h1, h2⟩ => ⟨h1, fun w hc => h2 w (h w hc)⟩) id

theorem Exact.opC {i : Nat} {o : Oper} {v : Value} {C : World → Prop} {a : Act} (hi : ops[i]? = some o) (hy : Exact P ops R C o v a) {K : (World → Prop) → Act → Prop}
    (hK : ∀ C' : World → Prop, (∀ w, C' w → C w) → K C' (a.put o.dst v)) : opC P ops R i K C a := by
  unfold Go.Proofs.Ytgdcidbpadhkpaa.opC
  simp only [hi]
  rcases hy with ⟨hw, hv⟩ | ⟨hw, rfl⟩
  · simp only [hw, if_true]
    refine ⟨fun u _ => u = v, fun u _ _ _ h => h, fun w hc => yieldsC_mono (hv w hc) fun u w' h => ⟨h.2, h.1⟩, fun u hu => ?_⟩
    obtain ⟨_, rfl⟩ := hu
    exact hK _ fun w hc => hc.1
  · simp only [hw, Bool.false_eq_true, if_false]; exact hK _ fun _ h => h

theorem opC_sub {i : Nat} {K : (World → Prop) → Act → Prop} {C C' : World → Prop} {a : Act} (hC : ∀ w, C' w → C w)
    (hK : ∀ (D D' : World → Prop) a, (∀ w, D' w → D w) → K D a → K D' a) (h : opC P ops R i K C a) : opC P ops R i K C' a := by
  unfold Go.Proofs.Ytgdcidbpadhkpaa.opC at *
  cases ho : ops[i]? with
  | none => simp only [ho] at h
  | some o =>
    simp only [ho] at h ⊢
    split
    · rename_i hw
      simp only [hw, if_true] at h
      obtain ⟨Φ, h1, h2, h3⟩ := h
      exact ⟨Φ, h1, fun w hc => h2 w (hC w hc), fun v hv => hK _ _ _ (fun w hw => ⟨hC w hw.1, hw.2⟩) (h3 v hv)⟩
    · rename_i hw; simp only [hw] at h; exact hK _ _ _ hC h

theorem wpCL_sub {n : Nat} {L : Array Bool → (World → Prop) → Act → Prop} (hL : ∀ listed (D D' : World → Prop) a, (∀ w, D' w → D w) → L listed D a → L listed D' a) :
    ∀ (f : Nat) (listed : Array Bool) (C C' : World → Prop) (a : Act), (∀ w, C' w → C w) → wpCL P md ops R n L f listed C a → wpCL P md ops R n L f listed C' a
  | 0, _, _, _, _, hC, h => hL _ _ _ _ hC h
  | f + 1, _, _, _, _, hC, h => ⟨h.1, fun i hi => ⟨(h.2 i hi).1, opC_sub hC (fun D D' a hD hh => wpCL_sub hL f _ D D' a hD hh) (h.2 i hi).2⟩⟩

theorem opC_put {j : Nat} {oi oj : Oper} {v : Value} {C : World → Prop} (hj : ops[j]? = some oj) (hap : oi.apart ops oj = true)
    (hsi : ∀ cs b, oi.op ≠ .select cs b) (hsj : ∀ cs b, oj.op ≠ .select cs b) {K : (World → Prop) → Act → Prop} {a : Act}
    (hy : Exact P ops R C oi v a) (h : opC P ops R j K C (a.put oi.dst v)) :
    opC P ops R j (fun C' a' => Exact P ops R C' oi v a' ∧ K C' (a'.put oi.dst v)) C a := by
  obtain ⟨h1, h2, h3⟩ := Oper.apart_spec hap
  have keep : ∀ (a : Act), Exact P ops R C oi v a → ∀ u, Exact P ops R C oi v (a.put oj.dst u) := fun a hy u =>
    hy.of_same (execOp_put oi hsi a oj.dst u h3) (wanted_put oi a oj.dst u h3)
  unfold Go.Proofs.Ytgdcidbpadhkpaa.opC at *
  simp only [hj] at *
  rw [wanted_put oj a oi.dst v h1] at h
  split
  · rename_i hw
    simp only [hw, if_true] at h
    obtain ⟨Φ, s1, s2, s3⟩ := h
    refine ⟨Φ, s1, fun w hc => yieldsC_congr (execOp_put oj hsj a oi.dst v h1).symm (s2 w hc), fun u hu => ⟨(keep a hy u).sub fun w hw => hw.1, ?_⟩⟩
    rw [← Act.put_comm a v u h2]
    exact s3 u hu
  · rename_i hw
    simp only [hw] at h
    exact ⟨keep a hy _, by rw [← Act.put_comm a v undef h2]; exact h⟩

theorem wpCL_first {n i : Nat} {oi : Oper} {v : Value} {L : Array Bool → (World → Prop) → Act → Prop} (hi : ops[i]? = some oi) (hsel : ∀ (j : Nat) (o : Oper) cs b, ops[j]? = some o → o.op ≠ .select cs b)
    (hL : ∀ listed (D D' : World → Prop) a, (∀ w, D' w → D w) → L listed D a → L listed D' a)
    (htw : ∀ listed, HeadInv md ops n listed → ∀ i, i < n → listed.getD i true = false → ∀ t, n ≤ t → t ∉ Region.ready md ops listed) (hin : i < n)
    (hdone : ∀ listed C a, L listed C a → ∀ j ∈ Region.ready md ops listed, n ≤ j) :
    ∀ (f : Nat) (listed : Array Bool) (C : World → Prop) (a : Act), HeadInv md ops n listed →
      (∀ j oj, ops[j]? = some oj → j ≠ i → listed.getD j true = false → (∀ e ∈ oj.after, Region.binds md e = true → e.on ≠ i) → oi.apart ops oj = true) →
      i ∈ Region.ready md ops listed → Exact P ops R C oi v a →
      wpCL P md ops R n L f (listed.setIfInBounds i true) C (a.put oi.dst v) → wpCL P md ops R n L (f + 1) listed C a := by
  intro f
  induction f with
  | zero =>
    intro listed C a inv _ hr hy H
    have hun := (mem_ready.1 hr).1
    refine ⟨fun h => (by rw [h] at hr; cases hr), fun j hj => ?_⟩
    have hjn : j < n := by
      rcases Nat.lt_or_ge j n with h | h
      · exact h
      · exact absurd hj (htw listed inv i hin hun j h)
    refine ⟨hjn, ?_⟩
    by_cases hji : j = i
    · subst hji; exact hy.opC hi fun C' hc => hL _ _ _ _ hc H
    · have := hdone _ _ _ H j (ready_mono hj hji)
      omega
  | succ f ih =>
    intro listed C a inv hfree hr hy H
    have hun := (mem_ready.1 hr).1
    refine ⟨fun h => (by rw [h] at hr; cases hr), fun j hj => ?_⟩
    have hjn : j < n := by
      rcases Nat.lt_or_ge j n with h | h
      · exact h
      · exact absurd hj (htw listed inv i hin hun j h)
    refine ⟨hjn, ?_⟩
    by_cases hji : j = i
    · subst hji; exact hy.opC hi fun C' hc => wpCL_sub hL _ _ _ _ _ hc H
    · have h1 := (H.2 j (ready_mono hj hji)).2
      obtain ⟨hjun, oj, hoj, hall⟩ := mem_ready.1 hj
      have hnot : ∀ e ∈ oj.after, Region.binds md e = true → e.on ≠ i := fun e he hb heq => by
        have h1 := hall e he hb
        rw [heq, getD_both hun] at h1
        cases h1
      have h2 := opC_put hoj (hfree j oj hoj hji hjun hnot) (fun cs b => hsel i oi cs b hi) (fun cs b => hsel j oj cs b hoj) hy h1
      have hfree' : ∀ k ok, ops[k]? = some ok → k ≠ i → (listed.setIfInBounds j true).getD k true = false →
          (∀ e ∈ ok.after, Region.binds md e = true → e.on ≠ i) → oi.apart ops ok = true := fun k ok hk hki hun hno => by
        refine hfree k ok hk hki ?_ hno
        by_cases hjk : j = k
        · subst hjk; exact hjun
        · rw [getD_set_ne true hjk] at hun; exact hun
      refine opC_mono (fun C' a' h3 => ih (listed.setIfInBounds j true) C' a' (inv.set hj hjn) hfree' (ready_mono hr (Ne.symm hji)) h3.1 ?_) h2
      rw [Array.setIfInBounds_comm _ _ hji]
      exact h3.2

/-- The walk itself: the operations in the order of the list: (i, 0): one value in every world; (i, 1): a value of its own making, alone; (i, j + 2): i and j, each a value of its own making, in either order. -/
def wpT (P : Program) (ops : Array Oper) (R : World → World → Prop) (K : (World → Prop) → Act → Prop) : List (Nat × Nat) → (World → Prop) → Act → Prop
  | [], C, a => K C a
  | (i, 0) :: σ, C, a => match ops[i]? with
    | none => False
    | some o => if Region.wanted o (yielded ops a.tmps) then ∃ v, (∀ w, C w → yieldsC P o a w (fun u w' => u = v ∧ R w w')) ∧ wpT P ops R K σ C (a.put o.dst v)
      else wpT P ops R K σ C (a.put o.dst undef)
  | (i, 1) :: σ, C, a => match ops[i]? with
    | none => False
    | some o => if Region.wanted o (yielded ops a.tmps) then
        ∃ Φ : Value → World → Prop, (∀ v, Stable R (Φ v)) ∧ (∀ w, C w → yieldsC P o a w (fun v w' => R w w' ∧ Φ v w')) ∧ ∀ v, wpT P ops R K σ (fun w => C w ∧ Φ v w) (a.put o.dst v)
      else wpT P ops R K σ C (a.put o.dst undef)
  | (i, j + 2) :: σ, C, a => match ops[i]?, ops[j]? with
    | some o, some o' => Region.wanted o (yielded ops a.tmps) = true ∧ Region.wanted o' (yielded ops a.tmps) = true ∧
        ∃ (Φ Φ' : Value → World → Prop) (Δ : Value → Value → Prop), (∀ v, Stable R (Φ v)) ∧ (∀ v, Stable R (Φ' v)) ∧ (∀ w, C w → yieldsC P o a w (fun v w' => R w w' ∧ Φ v w')) ∧ (∀ w, C w → yieldsC P o' a w (fun v w' => R w w' ∧ Φ' v w')) ∧
          (∀ v w, C w → Φ v w → yieldsC P o' a w (fun v' w' => R w w' ∧ Φ' v' w' ∧ Δ v v')) ∧ (∀ v' w, C w → Φ' v' w → yieldsC P o a w (fun v w' => R w w' ∧ Φ v w' ∧ Δ v v')) ∧
          ∀ v v', wpT P ops R K σ (fun w => C w ∧ Φ v w ∧ Φ' v' w ∧ Δ v v') ((a.put o.dst v).put o'.dst v')
    | _, _ => False

theorem wpT_nil {K : (World → Prop) → Act → Prop} {C : World → Prop} {a : Act} (h : K C a) : wpT P ops R K [] C a := h
theorem wpT_ex {K : (World → Prop) → Act → Prop} {C : World → Prop} {a a' : Act} {i : Nat} {σ : List (Nat × Nat)} {o : Oper} {v : Value} (hi : ops[i]? = some o) (hw : Region.wanted o (yielded ops a.tmps) = true)
    (h : ∀ w, C w → ∀ Ψ : Value → World → Prop, (∀ w', R w w' → Ψ v w') → yieldsC P o a w Ψ) (ha : a.put o.dst v = a') (hr : wpT P ops R K σ C a') : wpT P ops R K ((i, 0) :: σ) C a := by
  subst ha
  unfold wpT
  simp only [hi, hw, if_true]
  exact ⟨v, fun w hc => h w hc _ fun w' hr => ⟨rfl, hr⟩, hr⟩
theorem wpT_no {K : (World → Prop) → Act → Prop} {C : World → Prop} {a a' : Act} {i : Nat} {σ : List (Nat × Nat)} {o : Oper} (hi : ops[i]? = some o) (hw : Region.wanted o (yielded ops a.tmps) = false)
    (ha : a.put o.dst undef = a') (hr : wpT P ops R K σ C a') : wpT P ops R K ((i, 0) :: σ) C a := by
  subst ha
  unfold wpT
  simp only [hi, hw, Bool.false_eq_true, if_false]
  exact hr
theorem wpT_fr {K : (World → Prop) → Act → Prop} {C : World → Prop} {a : Act} {i : Nat} {σ : List (Nat × Nat)} {o : Oper} (Φ : Value → World → Prop) (hi : ops[i]? = some o) (hw : Region.wanted o (yielded ops a.tmps) = true)
    (hs : ∀ v, Stable R (Φ v)) (h : ∀ w, C w → ∀ Ψ : Value → World → Prop, (∀ v w', R w w' → Φ v w' → Ψ v w') → yieldsC P o a w Ψ) (hr : ∀ v a', a.put o.dst v = a' → wpT P ops R K σ (fun w => C w ∧ Φ v w) a') : wpT P ops R K ((i, 1) :: σ) C a := by
  unfold wpT
  simp only [hi, hw, if_true]
  exact ⟨Φ, hs, fun w hc => h w hc _ fun v w' h1 h2 => ⟨h1, h2⟩, fun v => hr v _ rfl⟩

theorem wpT_fr2 {K : (World → Prop) → Act → Prop} {C : World → Prop} {a : Act} {i j : Nat} {σ : List (Nat × Nat)} {o o' : Oper} (Φ Φ' : Value → World → Prop) (Δ : Value → Value → Prop) (hi : ops[i]? = some o) (hj : ops[j]? = some o') (hw : Region.wanted o (yielded ops a.tmps) = true) (hw' : Region.wanted o' (yielded ops a.tmps) = true)
    (hs : ∀ v, Stable R (Φ v)) (hs' : ∀ v, Stable R (Φ' v)) (h : ∀ w, C w → ∀ Ψ : Value → World → Prop, (∀ v w', R w w' → Φ v w' → (∀ v', Φ' v' w → Δ v v') → Ψ v w') → yieldsC P o a w Ψ)
    (h' : ∀ w, C w → ∀ Ψ : Value → World → Prop, (∀ v w', R w w' → Φ' v w' → (∀ v', Φ v' w → Δ v' v) → Ψ v w') → yieldsC P o' a w Ψ)
    (hr : ∀ v v' a', (a.put o.dst v).put o'.dst v' = a' → wpT P ops R K σ (fun w => C w ∧ Φ v w ∧ Φ' v' w ∧ Δ v v') a') : wpT P ops R K ((i, j + 2) :: σ) C a := by
  unfold wpT
  simp only [hi, hj]
  exact ⟨hw, hw', Φ, Φ', Δ, hs, hs', fun w hc => h w hc _ fun v w' h1 h2 _ => ⟨h1, h2⟩, fun w hc => h' w hc _ fun v w' h1 h2 _ => ⟨h1, h2⟩,
    fun v w hc hv => h' w hc _ fun v' w' h1 h2 h3 => ⟨h1, h2, h3 v hv⟩, fun v' w hc hv => h w hc _ fun v w' h1 h2 h3 => ⟨h1, h2, h3 v' hv⟩, fun v v' => hr v v' _ rfl⟩

def cnt : List (Nat × Nat) → Nat
  | [] => 0
  | (_, 0) :: σ => cnt σ + 1
  | (_, 1) :: σ => cnt σ + 1
  | (_, _ + 2) :: σ => cnt σ + 2

/-- The order may be taken: each comes up in its turn; who yields one value in all worlds is apart from all that do not wait for it; who makes a value comes up alone, or with one other that makes one. -/
def orderB (md : Region.Mode) (ops : Array Oper) (n : Nat) (fin : Array Bool → Bool) : List (Nat × Nat) → Array Bool → Bool
  | [], listed => fin listed
  | (i, 0) :: σ, listed => decide (i < n) && (Region.ready md ops listed).contains i && Region.free md ops listed i && orderB md ops n fin σ (listed.setIfInBounds i true)
  | (i, 1) :: σ, listed => decide (i < n) && decide (Region.ready md ops listed = [i]) && orderB md ops n fin σ (listed.setIfInBounds i true)
  | (i, j + 2) :: σ, listed => decide (i < n) && decide (j < n) && decide (i ≠ j) && decide (Region.ready md ops listed = [i, j]) && decide (Region.ready md ops (listed.setIfInBounds i true) = [j]) && decide (Region.ready md ops (listed.setIfInBounds j true) = [i]) &&
      (match ops[i]?, ops[j]? with | some o, some o' => o.apart ops o' && o'.apart ops o | _, _ => false) && orderB md ops n fin σ ((listed.setIfInBounds i true).setIfInBounds j true)

theorem wpCL_of_T {n g : Nat} {fin : Array Bool → Bool} {K : (World → Prop) → Act → Prop} {L : Array Bool → (World → Prop) → Act → Prop} (hsel : Region.noSelect ops = true)
    (hLs : ∀ listed (D D' : World → Prop) a, (∀ w, D' w → D w) → L listed D a → L listed D' a)
    (hbase : ∀ listed C a, HeadInv md ops n listed → fin listed = true → K C a → wpCL P md ops R n L g listed C a)
    (htw : ∀ listed, HeadInv md ops n listed → ∀ i, i < n → listed.getD i true = false → ∀ t, n ≤ t → t ∉ Region.ready md ops listed)
    (hdone : ∀ listed C a, L listed C a → ∀ j ∈ Region.ready md ops listed, n ≤ j) :
    ∀ (σ : List (Nat × Nat)) (listed : Array Bool) (C : World → Prop) (a : Act), HeadInv md ops n listed → orderB md ops n fin σ listed = true → wpT P ops R K σ C a →
      wpCL P md ops R n L (cnt σ + g) listed C a
  | [], listed, C, a, inv, hB, h => by
    rw [show cnt [] + g = g from Nat.zero_add g]
    exact hbase _ _ _ inv (by simpa [orderB] using hB) (by simpa [wpT] using h)
  | (i, 0) :: σ, listed, C, a, inv, hB, h => by
    rw [show cnt ((i, 0) :: σ) + g = (cnt σ + g) + 1 by simp only [cnt]; omega]
    simp only [orderB, Bool.and_eq_true, decide_eq_true_eq] at hB
    obtain ⟨⟨⟨hin, hr⟩, hf⟩, hB'⟩ := hB
    have hr' : i ∈ Region.ready md ops listed := by simpa using hr
    unfold wpT at h
    cases ho : ops[i]? with
    | none => simp only [ho] at h
    | some o =>
      simp only [ho] at h
      by_cases hw : Region.wanted o (yielded ops a.tmps) = true
      · simp only [hw, if_true] at h
        obtain ⟨v, s1, s2⟩ := h
        exact wpCL_first ho (Region.noSelect_spec hsel) hLs htw hin hdone (cnt σ + g) listed C a inv (Region.free_spec ho hf) hr' (.inl ⟨hw, s1⟩)
          (wpCL_of_T hsel hLs hbase htw hdone σ _ _ _ (inv.set hr' hin) hB' s2)
      · simp only [hw] at h
        have hw' : Region.wanted o (yielded ops a.tmps) = false := by simpa using hw
        exact wpCL_first ho (Region.noSelect_spec hsel) hLs htw hin hdone (cnt σ + g) listed C a inv (Region.free_spec ho hf) hr' (.inr ⟨hw', rfl⟩)
          (wpCL_of_T hsel hLs hbase htw hdone σ _ _ _ (inv.set hr' hin) hB' h)
  | (i, 1) :: σ, listed, C, a, inv, hB, h => by
    rw [show cnt ((i, 1) :: σ) + g = (cnt σ + g) + 1 by simp only [cnt]; omega]
    simp only [orderB, Bool.and_eq_true, decide_eq_true_eq] at hB
    obtain ⟨⟨hin, hf⟩, hB'⟩ := hB
    have hr' : i ∈ Region.ready md ops listed := by rw [hf]; simp
    unfold wpT at h
    cases ho : ops[i]? with
    | none => simp only [ho] at h
    | some o =>
      simp only [ho] at h
      refine ⟨fun h0 => (by rw [h0] at hr'; cases hr'), fun j hj => ?_⟩
      rw [hf] at hj
      have hji : j = i := by simpa using hj
      subst hji
      refine ⟨hin, ?_⟩
      unfold Go.Proofs.Ytgdcidbpadhkpaa.opC
      by_cases hw : Region.wanted o (yielded ops a.tmps) = true
      · simp only [hw, if_true] at h
        obtain ⟨Φ, s1, s2, s3⟩ := h
        simp only [ho, hw, if_true]
        exact ⟨Φ, s1, s2, fun v _ => wpCL_of_T hsel hLs hbase htw hdone σ _ _ _ (inv.set hr' hin) hB' (s3 v)⟩
      · simp only [hw] at h
        have hw' : Region.wanted o (yielded ops a.tmps) = false := by simpa using hw
        simp only [ho, hw', Bool.false_eq_true, if_false]
        exact wpCL_of_T hsel hLs hbase htw hdone σ _ _ _ (inv.set hr' hin) hB' h
  | (i, k + 2) :: σ, listed, C, a, inv, hB, h => by
    rw [show cnt ((i, k + 2) :: σ) + g = ((cnt σ + g) + 1) + 1 by simp only [cnt]; omega]
    simp only [orderB, Bool.and_eq_true, decide_eq_true_eq] at hB
    obtain ⟨⟨⟨⟨⟨⟨⟨hin, hkn⟩, hik⟩, hrd⟩, hrd1⟩, hrd2⟩, hap⟩, hB'⟩ := hB
    unfold wpT at h
    cases ho : ops[i]? with
    | none => simp only [ho] at h
    | some o =>
      cases ho' : ops[k]? with
      | none => simp only [ho, ho'] at h
      | some o' =>
        simp only [ho, ho'] at h hap
        rw [Bool.and_eq_true] at hap
        obtain ⟨hw, hw', Φ, Φ', Δ, s1, s1', s2, s2', d2, d2', s3⟩ := h
        have hri : i ∈ Region.ready md ops listed := by rw [hrd]; simp
        have hrk : k ∈ Region.ready md ops listed := by rw [hrd]; simp
        have inv1 := inv.set hri hin
        have inv2 := inv.set hrk hkn
        have hki : k ∈ Region.ready md ops (listed.setIfInBounds i true) := by rw [hrd1]; simp
        have hik' : i ∈ Region.ready md ops (listed.setIfInBounds k true) := by rw [hrd2]; simp
        have hsi := fun cs b => Region.noSelect_spec hsel i o cs b ho
        have hsk := fun cs b => Region.noSelect_spec hsel k o' cs b ho'
        obtain ⟨p1, p2, p3⟩ := Oper.apart_spec hap.1
        obtain ⟨q1, q2, q3⟩ := Oper.apart_spec hap.2
        have fin1 := fun v v' => wpCL_of_T hsel hLs hbase htw hdone σ _ _ _ (inv1.set hki hkn) hB' (s3 v v')
        refine ⟨fun h0 => (by rw [h0] at hri; cases hri), fun j hj => ?_⟩
        rw [hrd] at hj
        have hj2 : j = i ∨ j = k := by simpa using hj
        rcases hj2 with rfl | rfl
        · refine ⟨hin, ?_⟩
          unfold Go.Proofs.Ytgdcidbpadhkpaa.opC
          simp only [ho, hw, if_true]
          refine ⟨Φ, s1, s2, fun v _ => ⟨fun h0 => (by rw [h0] at hki; cases hki), fun j' hj' => ?_⟩⟩
          rw [hrd1] at hj'
          have : j' = k := by simpa using hj'
          subst this
          refine ⟨hkn, ?_⟩
          unfold Go.Proofs.Ytgdcidbpadhkpaa.opC
          simp only [ho', wanted_put o' a o.dst v p1, hw', if_true]
          refine ⟨fun v' w' => Φ' v' w' ∧ Δ v v', fun v' x y hxy h => ⟨s1' v' x y hxy h.1, h.2⟩, fun w hc => yieldsC_congr (execOp_put o' hsk a o.dst v p1) (d2 v w hc.1 hc.2), fun v' _ => ?_⟩
          exact wpCL_sub hLs _ _ _ _ _ (fun w hw => ⟨hw.1.1, hw.1.2, hw.2.1, hw.2.2⟩) (fin1 v v')
        · refine ⟨hkn, ?_⟩
          unfold Go.Proofs.Ytgdcidbpadhkpaa.opC
          simp only [ho', hw', if_true]
          refine ⟨Φ', s1', s2', fun v' _ => ⟨fun h0 => (by rw [h0] at hik'; cases hik'), fun j' hj' => ?_⟩⟩
          rw [hrd2] at hj'
          have : j' = i := by simpa using hj'
          subst this
          refine ⟨hin, ?_⟩
          unfold Go.Proofs.Ytgdcidbpadhkpaa.opC
          simp only [ho, wanted_put o a o'.dst v' q1, hw, if_true]
          refine ⟨fun v w' => Φ v w' ∧ Δ v v', fun v x y hxy h => ⟨s1 v x y hxy h.1, h.2⟩, fun w hc => yieldsC_congr (execOp_put o hsi a o'.dst v' q1) (d2' v' w hc.1 hc.2), fun v _ => ?_⟩
          rw [Array.setIfInBounds_comm _ _ (Ne.symm hik), Act.put_comm a v' v q2]
          exact wpCL_sub hLs _ _ _ _ _ (fun w hw => ⟨hw.1.1, hw.2.1, hw.1.2, hw.2.2⟩) (fin1 v v')

def endB (ops : Array Oper) (listed : Array Bool) : Bool := (Region.ready .any ops listed).isEmpty
def allB (ops : Array Oper) (σ : List (Nat × Nat)) : Bool := Region.noSelect ops && decide (cnt σ = ops.size) && orderB .any ops ops.size (endB ops) σ (Array.replicate ops.size false)
def tailB (ops : Array Oper) (n : Nat) (σ : List (Nat × Nat)) : Bool := Region.noSelect ops && decide (n < ops.size) && decide (cnt σ = n) && Region.sinkB .any ops n && Region.chainB .any ops n && orderB .any ops n (Region.seqB .any ops (ops.size - n) n) σ (Array.replicate ops.size false)

theorem headInv0 {n : Nat} : HeadInv md ops n (Array.replicate ops.size false) :=
  ⟨by simp, fun j oj _ hl => (by rw [getD_replicate_false] at hl; cases hl), fun t _ ht => getD_in (by simpa using ht) (getD_replicate_false _ _)⟩

/-- A whole region, nothing written. -/
theorem wp_region_T {id : Nat} {Q : Exit → Act → World → Prop} {a : Act} {w : World} {l : List Oper} (C : World → Prop) (σ : List (Nat × Nat)) (hm : P.follows .mixedOrders = true) (hB : allB l.toArray σ = true)
    (hS : Stable R C) (hC : C { w with drawn := w.drawn + 1 }) (h : wpT P l.toArray R (fun C a => ∀ w, C w → Q .normal a w) σ C a) : (Code.region id l.toArray true).wp P Q a w := by
  simp only [allB, Bool.and_eq_true, decide_eq_true_eq] at hB
  obtain ⟨⟨hsel, hlen⟩, hB⟩ := hB
  have hre : ∀ listed, ∀ t, l.toArray.size ≤ t → t ∉ Region.ready .any l.toArray listed := fun listed t ht hr => by
    obtain ⟨_, o, ho, _⟩ := mem_ready.1 hr
    have := (Array.getElem?_eq_some_iff.1 ho).1
    omega
  have H := wpCL_of_T (md := .any) (n := l.toArray.size) (fin := endB l.toArray) (g := 0) (L := fun listed C a => endB l.toArray listed = true ∧ ∀ w, C w → Q .normal a w) hsel (fun _ D D' a hD hh => ⟨hh.1, fun w hw => hh.2 w (hD w hw)⟩) (fun _ _ _ _ hf hk => ⟨hf, hk⟩) (fun listed _ _ _ _ t ht => hre listed t ht)
    (fun listed _ _ hL j hj => by have hf := hL.1; simp only [endB, List.isEmpty_iff] at hf; rw [hf] at hj; cases hj) σ _ C a headInv0 hB h
  refine wp_region_any hm ?_
  have := wpAny_of_CL (g := 0) (Q := Q) (fun listed C a hL w hw => (⟨by simpa [endB] using hL.1, hL.2 w hw⟩ : wpAny P .any l.toArray Q 0 listed a w)) _ _ _ _ hS H _ hC
  rw [Nat.add_zero, hlen] at this
  exact this

/-- A region whose last operations (from number n on, each waiting for the one before) are carried out as they stand. -/
theorem wp_region_Tt {id : Nat} {Q : Exit → Act → World → Prop} {a : Act} {w : World} {l : List Oper} (n : Nat) (C : World → Prop) (σ : List (Nat × Nat)) (hm : P.follows .mixedOrders = true) (hB : tailB l.toArray n σ = true)
    (hS : Stable R C) (hC : C { w with drawn := w.drawn + 1 }) (h : wpT P l.toArray R (fun C a => ∀ w, C w → wpList P l.toArray Q (l.drop n) a w) σ C a) : (Code.region id l.toArray true).wp P Q a w := by
  simp only [tailB, Bool.and_eq_true, decide_eq_true_eq] at hB
  obtain ⟨⟨⟨⟨⟨hsel, hn⟩, hlen⟩, hs⟩, hc⟩, hB⟩ := hB
  have hdl : (l.drop n).length = l.toArray.size - n := by simp
  have H := wpCL_of_T (md := .any) (n := n) (fin := Region.seqB .any l.toArray (l.toArray.size - n) n) (g := 0) (L := fun listed C a => Region.seqB .any l.toArray (l.toArray.size - n) n listed = true ∧ ∀ w, C w → wpList P l.toArray Q (l.drop n) a w) hsel (fun _ D D' a hD hh => ⟨hh.1, fun w hw => hh.2 w (hD w hw)⟩) (fun _ _ _ _ hf hk => ⟨hf, hk⟩) (fun listed inv i hin hun t ht => tail_waits hs hc hn inv _ i rfl hin hun t ht)
    (fun listed _ _ hL => seqB_ready hL.1) σ _ C a headInv0 hB h
  refine wp_region_any hm ?_
  have := wpAny_of_CL (g := l.toArray.size - n) (Q := Q) (fun listed C a hL w hw => by
    have := wpAny_of_seq (md := .any) (Q' := Q) (P := P) (ops := l.toArray) (l.drop n) n listed a w (fun j => by simp [List.getElem?_drop]) (by rw [hdl]; exact hL.1) (hL.2 w hw)
    rwa [hdl] at this) _ _ _ _ hS H _ hC
  rw [Nat.add_zero, hlen, show n + (l.toArray.size - n) = l.toArray.size by omega] at this
  exact this

def branB (ops : Array Oper) (i j : Nat) (σA σB : List (Nat × Nat)) (listed : Array Bool) : Bool :=
  decide (i < ops.size) && decide (j < ops.size) && decide (Region.ready .any ops listed = [i, j]) && orderB .any ops ops.size (endB ops) σA (listed.setIfInBounds i true) && orderB .any ops ops.size (endB ops) σB (listed.setIfInBounds j true)
def allBb (ops : Array Oper) (σ : List (Nat × Nat)) (i : Nat) (σA : List (Nat × Nat)) (j : Nat) (σB : List (Nat × Nat)) : Bool :=
  Region.noSelect ops && decide (cnt σ + (cnt σA + 1) = ops.size) && decide (cnt σA = cnt σB) && orderB .any ops ops.size (branB ops i j σA σB) σ (Array.replicate ops.size false)

/-- A whole region in which at one point either of two operations comes up: both ways are walked. -/
theorem wp_region_Tb {id : Nat} {Q : Exit → Act → World → Prop} {a : Act} {w : World} {l : List Oper} (C : World → Prop) (σ : List (Nat × Nat)) (i : Nat) (σA : List (Nat × Nat)) (j : Nat) (σB : List (Nat × Nat)) (hm : P.follows .mixedOrders = true)
    (hB : allBb l.toArray σ i σA j σB = true) (hS : Stable R C) (hC : C { w with drawn := w.drawn + 1 })
    (h : wpT P l.toArray R (fun C a => wpT P l.toArray R (fun C a => ∀ w, C w → Q .normal a w) ((i, 1) :: σA) C a ∧ wpT P l.toArray R (fun C a => ∀ w, C w → Q .normal a w) ((j, 1) :: σB) C a) σ C a) : (Code.region id l.toArray true).wp P Q a w := by
  simp only [allBb, Bool.and_eq_true, decide_eq_true_eq] at hB
  obtain ⟨⟨⟨hsel, hlen⟩, hAB⟩, hB⟩ := hB
  have hre : ∀ listed, ∀ t, l.toArray.size ≤ t → t ∉ Region.ready .any l.toArray listed := fun listed t ht hr => by
    obtain ⟨_, o, ho, _⟩ := mem_ready.1 hr
    have := (Array.getElem?_eq_some_iff.1 ho).1
    omega
  have hLs : ∀ (listed : Array Bool) (D D' : World → Prop) (a : Act), (∀ w, D' w → D w) → (endB l.toArray listed = true ∧ ∀ w, D w → Q .normal a w) → (endB l.toArray listed = true ∧ ∀ w, D' w → Q .normal a w) := fun _ D D' a hD hh => ⟨hh.1, fun w hw => hh.2 w (hD w hw)⟩
  have hdone : ∀ (listed : Array Bool) (C : World → Prop) (a : Act), (endB l.toArray listed = true ∧ ∀ w, C w → Q .normal a w) → ∀ j ∈ Region.ready .any l.toArray listed, l.toArray.size ≤ j := fun listed _ _ hL j hj => by
    have hf := hL.1; simp only [endB, List.isEmpty_iff] at hf; rw [hf] at hj; cases hj
  have one : ∀ (k : Nat) (σ' : List (Nat × Nat)) (listed : Array Bool) (C : World → Prop) (a : Act), k < l.toArray.size → HeadInv .any l.toArray l.toArray.size listed → k ∈ Region.ready .any l.toArray listed →
      orderB .any l.toArray l.toArray.size (endB l.toArray) σ' (listed.setIfInBounds k true) = true → wpT P l.toArray R (fun C a => ∀ w, C w → Q .normal a w) ((k, 1) :: σ') C a →
      opC P l.toArray R k (wpCL P .any l.toArray R l.toArray.size (fun listed C a => endB l.toArray listed = true ∧ ∀ w, C w → Q .normal a w) (cnt σ') (listed.setIfInBounds k true)) C a := by
    intro k σ' listed C a hk inv hr hB' h'
    have go := fun C a h => wpCL_of_T (P := P) (R := R) (md := .any) (n := l.toArray.size) (g := 0) (fin := endB l.toArray) (K := fun C a => ∀ w, C w → Q .normal a w) (L := fun listed C a => endB l.toArray listed = true ∧ ∀ w, C w → Q .normal a w) hsel hLs (fun _ _ _ _ hf hk => ⟨hf, hk⟩) (fun listed _ _ _ _ t ht => hre listed t ht) hdone σ' (listed.setIfInBounds k true) C a (inv.set hr hk) hB' h
    simp only [Nat.add_zero] at go
    unfold wpT at h'
    unfold Go.Proofs.Ytgdcidbpadhkpaa.opC
    cases ho : l.toArray[k]? with
    | none => simp only [ho] at h'
    | some o =>
      simp only [ho] at h' ⊢
      by_cases hw : Region.wanted o (yielded l.toArray a.tmps) = true
      · simp only [hw, if_true] at h' ⊢
        obtain ⟨Φ, s1, s2, s3⟩ := h'
        exact ⟨Φ, s1, s2, fun v _ => go _ _ (s3 v)⟩
      · simp only [hw] at h' ⊢
        exact go _ _ h'
  have H := wpCL_of_T (md := .any) (n := l.toArray.size) (g := cnt σA + 1) (fin := branB l.toArray i j σA σB) (L := fun listed C a => endB l.toArray listed = true ∧ ∀ w, C w → Q .normal a w) hsel hLs
    (fun listed C a inv hf hk => by
      simp only [branB, Bool.and_eq_true, decide_eq_true_eq] at hf
      obtain ⟨⟨⟨⟨hi, hj⟩, hrd⟩, hA⟩, hB⟩ := hf
      have hri : i ∈ Region.ready .any l.toArray listed := by rw [hrd]; simp
      have hrj : j ∈ Region.ready .any l.toArray listed := by rw [hrd]; simp
      refine ⟨fun h0 => (by rw [h0] at hri; cases hri), fun k hk' => ?_⟩
      rw [hrd] at hk'
      have hk2 : k = i ∨ k = j := by simpa using hk'
      rcases hk2 with rfl | rfl
      · exact ⟨hi, one k σA listed C a hi inv hri hA hk.1⟩
      · rw [hAB]; exact ⟨hj, one k σB listed C a hj inv hrj hB hk.2⟩)
    (fun listed _ _ _ _ t ht => hre listed t ht) hdone σ _ C a headInv0 hB h
  refine wp_region_any hm ?_
  have := wpAny_of_CL (g := 0) (Q := Q) (fun listed C a hL w hw => (⟨by simpa [endB] using hL.1, hL.2 w hw⟩ : wpAny P .any l.toArray Q 0 listed a w)) _ _ _ _ hS H _ hC
  rw [Nat.add_zero, hlen] at this
  exact this
end
attribute [irreducible] wpT
end Go.Proofs.Ytgdcidbpadhkpaa
