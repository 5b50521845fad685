/- Walks over the model itself. Conditions: none. -/
import Derived.OrdersIn
import Derived.TacticsIn
import Derived.RangeFuncNested
import Derived.RangeFuncLeaves
import Derived.RangeFuncBound
import Derived.Shelf.Abstract
import Derived.WalkKit
import Derived.WalkSpells
import Derived.Lib.Hide
import Derived.Deep.LoopGhost
import Derived.Deep.DeepMust
import Derived.Maps.AppendAt
import Derived.RangeFuncCalls
import Derived.Shelf.RegionOpen
import Derived.OwnWalkIn
import Derived.TacticsInMore
import Derived.LoopNIn
import Derived.LoopIn
import Derived.Test.YtepaabbfindaeaaGreatDoorRows
import Derived.Test.YtepaabbfindaeaaGreatDoorAmA
set_option linter.unusedVariables false
set_option linter.unusedSimpArgs false
namespace Go.Proofs.YtepaabbfindaeaaGreatDoor
open Go.RowKit

section
variable {P : Program} {ops : Array Oper} {md : Region.Mode} {R : World → World → Prop}

theorem not_defer_of_yields {o : Oper} {a : Act} {w : World} {Ψ : Value → World → Prop} (h : yieldsC P o a w Ψ) : ∀ c, o.op ≠ .defer c := by
  intro c hc
  unfold yieldsC execOp at h
  rw [hc] at h
  simp only [Sem.run_bind] at h
  generalize (resolve a.eval c o.type).run P w = r at h
  cases r <;> simp [Result.andThen, yieldsUpon] at h

theorem wpIn_of_yieldsC {l n : Nat} {o : Oper} {a : Act} {w : World} {Ψ : Value → World → Prop} {K : Act → World → Prop} {Q : Exit → Act → World → Prop}
    (h : yieldsC P o a w Ψ) (hK : ∀ v w', Ψ v w' → K (a.put o.dst v) w') : o.wpIn (Fence.wide.inRound l) n P a w K Q := by
  refine ⟨fun _ _ => trivial, ?_⟩
  rw [Oper.semAt_eq _ _ _ (not_defer_of_yields h)]
  unfold yieldsC at h
  generalize (execOp a.eval o).run P w = r at *
  cases r with
  | ok n w' =>
    cases n <;> simp only [yieldsUpon] at h <;> simp only [Oper.uponIn]
    case value u => exact hK _ _ h
    case skip => exact hK _ _ h
    case enter f args => exact ⟨fun hd => by simp [Fence.wide] at hd, CallsIn.inRound l (callsIn_wide.2 (h.mono fun e w'' ⟨u, he, hu⟩ => by subst he; exact hK _ _ hu))⟩
  | halt x w' => simp only [yieldsUpon] at h

end
end Go.Proofs.YtepaabbfindaeaaGreatDoor
namespace Go.Proofs.YtepaabbfindaeaaGreatDoor
open Go.RowKit Go.Shelf

section
variable {P : Program}

/-- The iterator's word: if the rounds go on, all items come, in their order; what it makes is its own; it needs of a round that it keeps what the iterator has made. -/
def Iter (P : Program) (gf : Nat) (first lb : Array Value) {α : Type} (encs : α → Array Value) (items : List α) (n₀ : Nat) (w : World) : Prop :=
  ∀ (m l : Nat) (J : List α → World → Prop) (W : World), Ext w W →
    (∀ s A B, J s A → Ext A B → J s B) →
    (∀ s A, J s A → ∀ g, g < n₀ → A.heap[g]? = W.heap[g]?) →
    (∀ pre x A, J pre A → (pre ++ [x]) <+: items → YieldAt Fence.wide m P l (encs x) A fun e B =>
      e = .returned (.bool true) ∧ J (pre ++ [x]) B ∧ A.heap.size ≤ B.heap.size ∧ ∀ g, W.heap.size ≤ g → g < A.heap.size → B.heap[g]? = A.heap[g]?) →
    J [] W →
    CallsIn Fence.wide (m + 1) P gf (first ++ #[.func (.yield l) #[] #[]] ++ lb) W fun e B => (∃ v, e = .returned v) ∧ J items B

/-- How a round ends: off its end, with the invariant; whatever lay from block n₁ on is as it was. -/
def roundEnd {α : Type} (I : List α → World → Prop) (xs : List α) (n₁ : Nat) (W : World) : Exit → Act → World → Prop
  | .normal, _, W' => I xs W' ∧ W.heap.size ≤ W'.heap.size ∧ ∀ g, n₁ ≤ g → g < W.heap.size → W'.heap[g]? = W.heap[g]?
  | _, _, _ => False

theorem ext_putObj_new {A : World} {k : Nat} {o : Obj} {w : World} (h : Ext w A) (hk : w.heap.size ≤ k) : Ext w (A.putObj k o) :=
  ⟨h.os, h.tape, h.output, by rw [World.putObj_size]; exact h.size, fun g hg => by rw [World.putObj_heap_other (by omega)]; exact h.block g hg⟩

theorem wpIn_range {α : Type} {g : Operand} {ps : Array Tmp} {assign body : Code} {Q : Exit → Act → World → Prop} {a : Act} {w : World} {n gf : Nat} {first lb : Array Value}
    (hg : a.eval g = .func (.func gf) first lb) (eg : ∀ args w, (callFunc gf args).run P w = .ok (.enter gf args) w) {encs : α → Array Value} {items : List α} {n₀ : Nat} (hn₀ : n₀ ≤ w.heap.size)
    (hit : Iter P gf first lb encs items n₀ w) (hps : ∀ x, (encs x).size = ps.size) (I : List α → World → Prop)
    (hE : ∀ s A B, I s A → Ext A B → I s B) (hP : ∀ s A k o, I s A → w.heap.size ≤ k → I s (A.putObj k o)) (hB : ∀ s A, I s A → ∀ g, g < n₀ → A.heap[g]? = w.heap[g]?) (h0 : I [] w)
    (hbody : ∀ (m : Nat) (pre : List α) (x : α) (W : World), I pre W → (pre ++ [x]) <+: items → w.heap.size + 2 ≤ W.heap.size →
      assign.wpIn (Fence.wide.inRound (w.heap.size + 1)) m P (Exit.then (fun a₁ W₁ => Ext W W₁ ∧ ∀ o, body.wpIn (Fence.wide.inRound (w.heap.size + 1)) m P (roundEnd I (pre ++ [x]) w.heap.size (W₁.putObj (w.heap.size + 1) o)) a₁ (W₁.putObj (w.heap.size + 1) o)) (fun _ _ _ => False))
        { tmps := (ps.zip (encs x)).foldl (fun t (p, v) => t.setIfInBounds p v) a.tmps, defers := [] } W)
    (hdone : ∀ W, I items W → w.heap.size < W.heap.size → W.heap[w.heap.size]? = some (.deferred (some [])) → Q .normal { a with defers := { target := .collected w.heap.size, args := #[] } :: a.defers } W) :
    (Code.rangeFunc g ps assign body).wpIn Fence.wide n P Q a w := by
  refine wpIn_rangeFunc ?_
  intro fn hfn
  obtain ⟨rec, hrec⟩ : ∃ rec : LoopState → Loop, rec = fun st => { state := st, pending := none, fn, tmps := a.tmps, params := ps, assign, body, defers := w.heap.size } := ⟨_, rfl⟩
  obtain ⟨W1, hW1⟩ : ∃ W1, (w.alloc (.deferred (some []))).alloc (.loop (rec .ready)) = W1 := ⟨_, rfl⟩
  have hL1 : W1.heap[w.heap.size + 1]? = some (.loop (rec .ready)) := by
    rw [← hW1]; have := World.alloc_heap_new (w.alloc (.deferred (some []))) (.loop (rec .ready)); rwa [World.size_alloc] at this
  have hK1 : W1.heap[w.heap.size]? = some (.deferred (some [])) := by
    rw [← hW1]; exact (Below.heap_alloc _ _ _ (by simp)).trans (World.alloc_heap_new w _)
  have hE1 : Ext w W1 := by rw [← hW1]; exact ((Ext.refl w).alloc _).alloc _
  have hs1 : W1.heap.size = w.heap.size + 2 := by rw [← hW1]; simp
  have hI1 : I [] W1 := hE _ _ _ h0 hE1
  refine ⟨w.heap.size + 1, [{ target := .collected w.heap.size, args := #[] }], W1, { target := .fn (.func gf) lb, args := first ++ #[.func (.yield (w.heap.size + 1)) #[] #[]] }, W1, gf,
    first ++ #[.func (.yield (w.heap.size + 1)) #[] #[]] ++ lb, W1, ?_, ?_, fun _ _ => trivial, ?_, fun h => (by simp [Fence.wide] at h), ?_⟩
  · rw [← hW1, hrec]; exact run_enterLoop_outer _ _ _ _ _
  · simp only [resolve, hg]
    simp [go_sem]
  · simp [invoke, go_sem, eg]
  · refine callsIn_wide.2 (callsIn_wide.1 ((hit 0 (w.heap.size + 1) (fun pre W => I pre W ∧ w.heap.size + 2 ≤ W.heap.size ∧ W.heap[w.heap.size + 1]? = some (.loop (rec .ready)) ∧ W.heap[w.heap.size]? = some (.deferred (some []))) W1 hE1 ?_ ?_ ?_ ⟨hI1, by omega, hL1, hK1⟩).mono ?_))
    · rintro s A B ⟨h1, h2, h3, h4⟩ hx
      exact ⟨hE _ _ _ h1 hx, Nat.le_trans h2 hx.size, hx.heap h3, hx.heap h4⟩
    · rintro s A ⟨h1, _⟩ k hk
      rw [hB _ _ h1 k hk, hE1.block k (by omega)]
    · rintro pre x W ⟨hi, hsz, hl, hk⟩ hpre
      have hy := run_yield (P := P) (args := encs x) hl (by rw [hrec]; exact hps x)
      rw [hrec] at hy
      refine ⟨fn, _, assign, body, hy, roundIn_of_wpIn hfn (wpIn_mono (hbody 0 pre x W hi hpre hsz) ?_)⟩
      rintro e a₁ W₁ h
      cases e with
      | normal =>
        obtain ⟨hx, hb⟩ := h
        have hl1 := hx.heap hl
        have hk1 := hx.heap hk
        have hlt : w.heap.size + 1 < W₁.heap.size := by have := hx.size; omega
        refine ⟨_, run_beginRound hl1 (by rw [hrec]), wpIn_mono (hb _) ?_⟩
        rintro e a₂ W₂ h2
        cases e with
        | normal =>
          obtain ⟨j1, j2, j3⟩ := h2
          rw [World.putObj_size] at j2 j3
          have hl2 := (j3 (w.heap.size + 1) (by omega) hlt).trans (World.putObj_heap_same hlt)
          have hk2 := (j3 w.heap.size (Nat.le_refl _) (by omega)).trans ((World.putObj_heap_other (by omega)).trans hk1)
          refine ⟨_, _, run_endRound none hl2, rfl, ⟨hP _ _ _ _ j1 (by omega), by rw [World.putObj_size]; omega, ?_, by rw [World.putObj_heap_other (by omega)]; exact hk2⟩, by rw [World.putObj_size]; have := hx.size; omega, ?_⟩
          · rw [World.putObj_heap_same (by omega), hrec]; rfl
          · intro k hk3 hk4
            have hx' := hx.block k hk4
            rw [World.putObj_heap_other (by omega), j3 k (by omega) (by have := hx.size; omega), World.putObj_heap_other (by omega), hx']
        | _ => exact h2.elim
      | _ => exact h.elim
    · rintro e W2 ⟨⟨v, rfl⟩, hi, hsz, hl, hk⟩
      exact ⟨none, _, by have := run_endLoop (P := P) hl (by rw [hrec]; simp); rw [hrec] at this; exact this,
        hdone _ (hP _ _ _ _ hi (by omega)) (by rw [World.putObj_size]; omega) ((World.putObj_heap_other (by omega)).trans hk)⟩
end
end Go.Proofs.YtepaabbfindaeaaGreatDoor
namespace Go.Proofs.YtepaabbfindaeaaGreatDoor
open Go.RowKit

section
variable {P : Program} {ops : Array Oper} {md : Region.Mode}

def same (w w' : World) : Prop := w' = w

def wpOpY (P : Program) (ops : Array Oper) (i : Nat) (K : Act → World → Prop) (a : Act) (w : World) : Prop :=
  match ops[i]? with
  | none => False
  | some o => if Region.wanted o (yielded ops a.tmps) then yieldsC P o a w (fun v w' => K (a.put o.dst v) w') else K (a.put o.dst undef) w

def wpC (P : Program) (md : Region.Mode) (ops : Array Oper) (C : World → Prop) (F : Act → World → Prop) : Nat → Array Bool → Act → World → Prop
  | 0, listed, a, w => Region.ready md ops listed = [] ∧ F a w
  | f + 1, listed, a, w => (Region.ready md ops listed = [] → F a w) ∧ ∀ i ∈ Region.ready md ops listed, wpOpY P ops i (fun a' w' => C w' ∧ wpC P md ops C F f (listed.setIfInBounds i true) a' w') a w

theorem wpOpY_mono {i : Nat} {K K' : Act → World → Prop} {a : Act} {w : World} (h : ∀ a w, K a w → K' a w) (hh : wpOpY P ops i K a w) : wpOpY P ops i K' a w := by
  unfold wpOpY at *
  split
  · rename_i ho; simp only [ho] at hh
  · rename_i o ho
    simp only [ho] at hh
    split
    · rename_i hw; simp only [hw, if_true] at hh; exact yieldsC_mono hh fun v w' hk => h _ _ hk
    · rename_i hw; simp only [hw] at hh; exact h _ _ hh

theorem Exact.opY {C : World → Prop} {i : Nat} {oi : Oper} {v : Value} {a : Act} {w : World} {K : Act → World → Prop} (hi : ops[i]? = some oi) (hy : Exact P ops same C oi v a) (hC : C w) (h : K (a.put oi.dst v) w) : wpOpY P ops i K a w := by
  unfold wpOpY
  simp only [hi]
  rcases hy with ⟨hw, hy⟩ | ⟨hw, rfl⟩
  · simp only [hw, if_true]
    exact yieldsC_mono (hy w hC) fun u w' ⟨hu, hs⟩ => by subst hu; rw [show w' = w from hs]; exact h
  · simp only [hw, Bool.false_eq_true, if_false]
    exact h

theorem opY_put {j : Nat} {oi oj : Oper} {v : Value} {C : World → Prop} (hj : ops[j]? = some oj) (hap : oi.apart ops oj = true)
    (hsi : ∀ cs b, oi.op ≠ .select cs b) (hsj : ∀ cs b, oj.op ≠ .select cs b) {K : Act → World → Prop} {a : Act} {w : World}
    (hy : Exact P ops same C oi v a) (h : wpOpY P ops j K (a.put oi.dst v) w) :
    wpOpY P ops j (fun a' w' => Exact P ops same C oi v a' ∧ K (a'.put oi.dst v) w') a w := by
  obtain ⟨h1, h2, h3⟩ := Oper.apart_spec hap
  have keep : ∀ (a : Act), Exact P ops same C oi v a → ∀ u, Exact P ops same C oi v (a.put oj.dst u) := fun a hy u =>
    hy.of_same (execOp_put oi hsi a oj.dst u h3) (wanted_put oi a oj.dst u h3)
  unfold wpOpY at *
  simp only [hj] at *
  rw [wanted_put oj a oi.dst v h1] at h
  split
  · rename_i hw
    simp only [hw, if_true] at h
    refine yieldsC_congr (execOp_put oj hsj a oi.dst v h1).symm (yieldsC_mono h fun u w' hk => ⟨keep a hy u, ?_⟩)
    rw [← Act.put_comm a v u h2]
    exact hk
  · rename_i hw
    simp only [hw] at h
    exact ⟨keep a hy _, by rw [← Act.put_comm a v undef h2]; exact h⟩

theorem wpC_first {i : Nat} {oi : Oper} {v : Value} {C : World → Prop} {F : Act → World → Prop} (hi : ops[i]? = some oi) (hsel : ∀ (j : Nat) (o : Oper) cs b, ops[j]? = some o → o.op ≠ .select cs b) :
    ∀ (f : Nat) (listed : Array Bool) (a : Act) (w : World), C w →
      (∀ j oj, ops[j]? = some oj → j ≠ i → listed.getD j true = false → (∀ e ∈ oj.after, Region.binds md e = true → e.on ≠ i) → oi.apart ops oj = true) →
      i ∈ Region.ready md ops listed → Exact P ops same C oi v a →
      wpC P md ops C F f (listed.setIfInBounds i true) (a.put oi.dst v) w → wpC P md ops C F (f + 1) listed a w := by
  intro f
  induction f with
  | zero =>
    intro listed a w hC _ hr hy H
    refine ⟨fun h => (by rw [h] at hr; cases hr), fun j hj => ?_⟩
    by_cases hji : j = i
    · subst hji; exact hy.opY hi hC ⟨hC, H⟩
    · have := ready_mono hj hji
      rw [H.1] at this
      cases this
  | succ f ih =>
    intro listed a w hC hfree hr hy H
    have hun := (mem_ready.1 hr).1
    refine ⟨fun h => (by rw [h] at hr; cases hr), fun j hj => ?_⟩
    by_cases hji : j = i
    · subst hji; exact hy.opY hi hC ⟨hC, H⟩
    · have h1 := H.2 j (ready_mono hj hji)
      obtain ⟨hjun, oj, hoj, hall⟩ := mem_ready.1 hj
      have hnot : ∀ e ∈ oj.after, Region.binds md e = true → e.on ≠ i := fun e he hb heq => by
        have h1 := hall e he hb
        rw [heq, getD_both hun] at h1
        cases h1
      have h2 := opY_put hoj (hfree j oj hoj hji hjun hnot) (fun cs b => hsel i oi cs b hi) (fun cs b => hsel j oj cs b hoj) hy h1
      have hfree' : ∀ k ok, ops[k]? = some ok → k ≠ i → (listed.setIfInBounds j true).getD k true = false →
          (∀ e ∈ ok.after, Region.binds md e = true → e.on ≠ i) → oi.apart ops ok = true := fun k ok hk hki hun hno => by
        refine hfree k ok hk hki ?_ hno
        by_cases hjk : j = k
        · subst hjk; exact hjun
        · rw [getD_set_ne true hjk] at hun; exact hun
      refine wpOpY_mono (fun a' w' h3 => ⟨h3.2.1, ih (listed.setIfInBounds j true) a' w' h3.2.1 hfree' (ready_mono hr (Ne.symm hji)) h3.1 ?_⟩) h2
      rw [Array.setIfInBounds_comm _ _ hji]
      exact h3.2.2

/-- The operations of one value, in their order. -/
def wpE (P : Program) (ops : Array Oper) (C : World → Prop) (K : Act → Prop) : List Nat → Act → Prop
  | [], a => K a
  | i :: σ, a => match ops[i]? with
    | none => False
    | some o => if Region.wanted o (yielded ops a.tmps) then ∃ v, (∀ w, C w → yieldsC P o a w (fun u w' => u = v ∧ w' = w)) ∧ wpE P ops C K σ (a.put o.dst v)
      else wpE P ops C K σ (a.put o.dst undef)
theorem wpE_nil {C : World → Prop} {K : Act → Prop} {a : Act} (h : K a) : wpE P ops C K [] a := h
theorem wpE_ex {C : World → Prop} {K : Act → Prop} {a a' : Act} {i : Nat} {σ : List Nat} {o : Oper} {v : Value} (hi : ops[i]? = some o) (hw : Region.wanted o (yielded ops a.tmps) = true)
    (h : ∀ w, C w → ∀ Ψ : Value → World → Prop, Ψ v w → yieldsC P o a w Ψ) (ha : a.put o.dst v = a') (hr : wpE P ops C K σ a') : wpE P ops C K (i :: σ) a := by
  subst ha
  unfold wpE
  simp only [hi, hw, if_true]
  exact ⟨v, fun w hc => h w hc _ ⟨rfl, rfl⟩, hr⟩
theorem wpE_no {C : World → Prop} {K : Act → Prop} {a a' : Act} {i : Nat} {σ : List Nat} {o : Oper} (hi : ops[i]? = some o) (hw : Region.wanted o (yielded ops a.tmps) = false)
    (ha : a.put o.dst undef = a') (hr : wpE P ops C K σ a') : wpE P ops C K (i :: σ) a := by
  subst ha
  unfold wpE
  simp only [hi, hw, Bool.false_eq_true, if_false]
  exact hr

def orderE (md : Region.Mode) (ops : Array Oper) : List Nat → Array Bool → Bool
  | [], _ => true
  | i :: σ, listed => (Region.ready md ops listed).contains i && Region.free md ops listed i && orderE md ops σ (listed.setIfInBounds i true)
def listE : List Nat → Array Bool → Array Bool
  | [], listed => listed
  | i :: σ, listed => listE σ (listed.setIfInBounds i true)

theorem wpC_of_E {C : World → Prop} {F : Act → World → Prop} {K : Act → Prop} {g : Nat} {w : World} (hsel : Region.noSelect ops = true) (hC : C w) :
    ∀ (σ : List Nat) (listed : Array Bool) (a : Act), orderE md ops σ listed = true → (∀ a, K a → wpC P md ops C F g (listE σ listed) a w) → wpE P ops C K σ a →
      wpC P md ops C F (σ.length + g) listed a w
  | [], listed, a, _, hK, h => by rw [List.length_nil, Nat.zero_add]; exact hK a h
  | i :: σ, listed, a, hB, hK, h => by
    rw [List.length_cons, show σ.length + 1 + g = (σ.length + g) + 1 by omega]
    simp only [orderE, Bool.and_eq_true] at hB
    obtain ⟨⟨hr, hf⟩, hB'⟩ := hB
    have hr' : i ∈ Region.ready md ops listed := by simpa using hr
    unfold wpE at h
    cases ho : ops[i]? with
    | none => simp only [ho] at h
    | some o =>
      simp only [ho] at h
      by_cases hw : Region.wanted o (yielded ops a.tmps) = true
      · simp only [hw, if_true] at h
        obtain ⟨v, s1, s2⟩ := h
        exact wpC_first ho (Region.noSelect_spec hsel) _ _ _ _ hC (Region.free_spec ho hf) hr' (.inl ⟨hw, s1⟩) (wpC_of_E hsel hC σ _ _ hB' hK s2)
      · simp only [hw] at h
        have hw' : Region.wanted o (yielded ops a.tmps) = false := by simpa using hw
        exact wpC_first ho (Region.noSelect_spec hsel) _ _ _ _ hC (Region.free_spec ho hf) hr' (.inr ⟨hw', rfl⟩) (wpC_of_E hsel hC σ _ _ hB' hK h)

theorem wpC_mono {C : World → Prop} {F F' : Act → World → Prop} (hF : ∀ a w, F a w → F' a w) : ∀ (f : Nat) (listed : Array Bool) (a : Act) (w : World), wpC P md ops C F f listed a w → wpC P md ops C F' f listed a w
  | 0, _, _, _, h => ⟨h.1, hF _ _ h.2⟩
  | f + 1, _, _, _, h => ⟨fun h0 => hF _ _ (h.1 h0), fun i hi => wpOpY_mono (fun _ _ hk => ⟨hk.1, wpC_mono hF f _ _ _ hk.2⟩) (h.2 i hi)⟩

theorem wpAnyIn_of_C {fl fn : Nat} {C : World → Prop} {Q : Exit → Act → World → Prop} : ∀ (f : Nat) (listed : Array Bool) (a : Act) (w : World), wpC P md ops C (Q .normal) f listed a w → wpAnyIn (Fence.wide.inRound fl) fn P md ops Q f listed a w
  | 0, _, _, _, h => h
  | f + 1, listed, a, w, h => by
    refine ⟨h.1, fun i hi => ?_⟩
    have h1 := h.2 i hi
    unfold wpOpY at h1
    unfold wpOpIn
    cases ho : ops[i]? with
    | none => simp only [ho] at h1
    | some o =>
      simp only [ho] at h1 ⊢
      split
      · rename_i hwa
        simp only [hwa, if_true] at h1
        exact wpIn_of_yieldsC h1 fun v w' hk => wpAnyIn_of_C f _ _ _ hk.2
      · rename_i hwa
        simp only [hwa] at h1
        exact ⟨fun _ _ => trivial, wpAnyIn_of_C f _ _ _ h1.2⟩

/-- What is to be shown when the operations of one value are done: the rest, from this world on, ends with two values of its own making in the slots p and q; and the walk goes on with whatever two these are. -/
def twoE (P : Program) (ops : Array Oper) (C : World → Prop) (Q : Exit → Act → World → Prop) (w : World) (σ : List Nat) (p q : Nat) (a : Act) : Prop :=
  ∃ Ψ : Value → Value → World → Prop, wpC P .any ops C (fun a' w' => ∃ v v', a' = (a.put (some p) v).put (some q) v' ∧ Ψ v v' w') (ops.size - σ.length) (listE σ (Array.replicate ops.size false)) a w ∧
    ∀ v v' w', Ψ v v' w' → Q .normal ((a.put (some p) v).put (some q) v') w'

theorem wpIn_region_E2 {fl fn id : Nat} {Q : Exit → Act → World → Prop} {a : Act} {w : World} {l : List Oper} (C : World → Prop) (σ : List Nat) (p q : Nat) (hm : P.follows .mixedOrders = true) (hB : (Region.noSelect l.toArray && decide (σ.length ≤ l.toArray.size) && orderE .any l.toArray σ (Array.replicate l.toArray.size false)) = true)
    (hC : C w.drew) (h : wpE P l.toArray C (twoE P l.toArray C Q w.drew σ p q) σ a) : (Code.region id l.toArray true).wpIn (Fence.wide.inRound fl) fn P Q a w := by
  simp only [Bool.and_eq_true, decide_eq_true_eq] at hB
  obtain ⟨⟨hsel, hn⟩, hB⟩ := hB
  refine wpIn_region_any hm ?_
  have := wpC_of_E (F := Q .normal) (g := l.toArray.size - σ.length) hsel hC σ _ a hB (fun a ⟨Ψ, h1, h2⟩ => wpC_mono (fun a' w' ⟨v, v', e, hp⟩ => by subst e; exact h2 v v' w' hp) _ _ _ _ h1) h
  rw [show σ.length + (l.toArray.size - σ.length) = l.toArray.size by omega] at this
  exact wpAnyIn_of_C _ _ _ _ this

theorem wpC_one {C : World → Prop} {F : Act → World → Prop} {f i : Nat} {listed listed' : Array Bool} {a : Act} {w : World} {o : Oper} (hr : Region.ready md ops listed = [i]) (hi : ops[i]? = some o) (hw : Region.wanted o (yielded ops a.tmps) = true) (hl : listed.setIfInBounds i true = listed')
    (h : ∀ Ψ : Value → World → Prop, (∀ v w', C w' → wpC P md ops C F f listed' (a.put o.dst v) w' → Ψ v w') → yieldsC P o a w Ψ) : wpC P md ops C F (f + 1) listed a w := by
  subst hl
  refine ⟨fun h0 => (by rw [hr] at h0; cases h0), fun j hj => ?_⟩
  rw [hr] at hj
  have hj2 : j = i := by simpa using hj
  subst hj2
  unfold wpOpY
  simp only [hi, hw, if_true]
  exact h _ fun v w' hc hk => ⟨hc, hk⟩
theorem wpC_two {C : World → Prop} {F : Act → World → Prop} {f i j : Nat} {listed listed' listed'' : Array Bool} {a : Act} {w : World} {o o' : Oper} (hr : Region.ready md ops listed = [i, j]) (hi : ops[i]? = some o) (hj : ops[j]? = some o') (hw : Region.wanted o (yielded ops a.tmps) = true)
    (hw' : Region.wanted o' (yielded ops a.tmps) = true) (hl : listed.setIfInBounds i true = listed') (hl' : listed.setIfInBounds j true = listed'')
    (h : ∀ Ψ : Value → World → Prop, (∀ v w', C w' → wpC P md ops C F f listed' (a.put o.dst v) w' → Ψ v w') → yieldsC P o a w Ψ)
    (h' : ∀ Ψ : Value → World → Prop, (∀ v w', C w' → wpC P md ops C F f listed'' (a.put o'.dst v) w' → Ψ v w') → yieldsC P o' a w Ψ) : wpC P md ops C F (f + 1) listed a w := by
  subst hl; subst hl'
  refine ⟨fun h0 => (by rw [hr] at h0; cases h0), fun k hk => ?_⟩
  rw [hr] at hk
  have hk2 : k = i ∨ k = j := by simpa using hk
  rcases hk2 with rfl | rfl
  · unfold wpOpY
    simp only [hi, hw, if_true]
    exact h _ fun v w' hc hk => ⟨hc, hk⟩
  · unfold wpOpY
    simp only [hj, hw', if_true]
    exact h' _ fun v w' hc hk => ⟨hc, hk⟩
theorem wpC_done {C : World → Prop} {F : Act → World → Prop} {listed : Array Bool} {a : Act} {w : World} (hr : Region.ready md ops listed = []) (h : F a w) : ∀ f, wpC P md ops C F f listed a w
  | 0 => ⟨hr, h⟩
  | _ + 1 => ⟨fun _ => h, by rw [hr]; simp⟩
end
attribute [irreducible] wpE wpC
end Go.Proofs.YtepaabbfindaeaaGreatDoor
namespace Go.Proofs.YtepaabbfindaeaaGreatDoor
open Go.RowKit

def RowsR (w : World) (b off : Nat) (l : List (Int × Int)) : Prop :=
  ∀ i x, l[i]? = some x → w.cell? ⟨b, off + i * 2, none⟩ = some (.int .i64 x.1) ∧ w.cell? ⟨b, off + i * 2 + 1, none⟩ = some (.int .i64 x.2)
def RowsS (w : World) (A : Option Addr) (l : List (Int × Int)) : Prop := l = [] ∨ ∃ b off, A = some ⟨b, off, none⟩ ∧ b < w.heap.size ∧ RowsR w b off l
theorem RowsR.ext {w w' : World} {b off : Nat} {l : List (Int × Int)} (h : RowsR w b off l) (hE : Ext w w') : RowsR w' b off l :=
  fun i x hx => ⟨hE.cell (h i x hx).1, hE.cell (h i x hx).2⟩
theorem RowsS.ext {w w' : World} {A : Option Addr} {l : List (Int × Int)} (h : RowsS w A l) (hE : Ext w w') : RowsS w' A l :=
  h.imp id fun ⟨b, off, h1, h2, h3⟩ => ⟨b, off, h1, Nat.lt_of_lt_of_le h2 hE.size, h3.ext hE⟩
def IntsR (w : World) (b off : Nat) (l : List Int) : Prop := ∀ i x, l[i]? = some x → w.cell? ⟨b, off + i, none⟩ = some (.int .i64 x)
theorem IntsR.ext {w w' : World} {b off : Nat} {l : List Int} (h : IntsR w b off l) (hE : Ext w w') : IntsR w' b off l :=
  fun i x hx => hE.cell (h i x hx)

theorem within_c (n lo hi : Int) (w : World) :
    Calls Tryz.prog 32 #[.int .i64 n, .int .i64 lo, .int .i64 hi] w fun e w' => e = .returned (.bool (decide (lo ≤ n) && decide (n ≤ hi))) ∧ w = w' := by
  by_cases h1 : lo ≤ n <;> by_cases h2 : n ≤ hi
  all_goals
    go_enter Tryz.func32, Tryz.ntmps32
    go_wp2
    go_ret
    simp [h1, h2]

theorem within_t (n lo hi : Int) (w : World) (h : lo ≤ n ∧ n ≤ hi) :
    Calls Tryz.prog 32 #[.int .i64 n, .int .i64 lo, .int .i64 hi] w fun e w' => e = .returned (.bool true) ∧ w = w' := by
  have hc := within_c n lo hi w
  rw [show (decide (lo ≤ n) && decide (n ≤ hi)) = true by simpa using h] at hc
  exact hc
theorem within_f (n lo hi : Int) (w : World) (h : ¬ (lo ≤ n ∧ n ≤ hi)) :
    Calls Tryz.prog 32 #[.int .i64 n, .int .i64 lo, .int .i64 hi] w fun e w' => e = .returned (.bool false) ∧ w = w' := by
  have hc := within_c n lo hi w
  rw [show (decide (lo ≤ n) && decide (n ≤ hi)) = false by rw [← Bool.not_eq_true]; simpa using h] at hc
  exact hc
def rgd (b : Bool) : Int := if b then 0 else 2
theorem ranged_c (b : Bool) (w : World) :
    Calls Tryz.prog 46 #[.bool b] w fun e w' => e = .returned (.int .i64 (rgd b)) ∧ w = w' := by
  cases b
  all_goals
    go_enter Tryz.func46, Tryz.ntmps46
    go_wp2
    go_ret
    simp [rgd]
def echoE (n : Int) : Int := rgd (decide (1 ≤ n) && decide (n ≤ 1000000))
theorem echoErr_c (n : Int) (w : World) :
    Calls Tryz.prog 26 #[.int .i64 n] w fun e w' => e = .returned (.int .i64 (echoE n)) ∧ w = w' := by
  go_enter Tryz.func26, Tryz.ntmps26
  go_wp2_with (first | (go_at_call 32; refine (within_c _ _ _ _).mono ?_; rintro e w' ⟨rfl, rfl⟩) | (go_at_call 46; refine (ranged_c _ _).mono ?_; rintro e w' ⟨rfl, rfl⟩))
  go_ret
  exact ⟨rfl, rfl⟩

def firstE : List Int → Int
  | [] => 0
  | x :: xs => if x = 0 then firstE xs else x

set_option maxHeartbeats 400000 in
theorem first_c (l : List Int) (b off : Nat) (c : Nat) (w : World) (h : IntsR w b off l) (hl : l.length ≤ 1000) :
    Calls Tryz.prog 25 #[.slice (some ⟨b, off, none⟩) l.length c] w fun e w' => e = .returned (.int .i64 (firstE l)) ∧ w = w' := by
  go_enter Tryz.func25, Tryz.ntmps25
  go_wp2
  go_loop [4, 7] (fun _ i => ∃ k : Nat, k ≤ l.length ∧ i = .int .i64 k ∧ firstE l = firstE (l.drop k)) (fun _ i => l.length - (intOf i).toNat)
  case atStart => exact ⟨0, Nat.zero_le _, rfl, rfl⟩
  case round =>
    obtain ⟨k, hk, rfl, hf⟩ := hrel
    have HF := Lib.hid hf; clear hf
    by_cases hlt : k < l.length
    · have hcell := h k _ (List.getElem?_eq_getElem hlt)
      have hd : firstE (l.drop k) = if l[k] = 0 then firstE (l.drop (k+1)) else l[k] := by
        rw [List.drop_eq_getElem_cons hlt]; rfl
      have HD := Lib.hid hd; clear hd
      generalize l[k] = x at *
      by_cases h0 : x = 0
      · subst h0
        go_wp2
        go_round
        case rel => exact ⟨k + 1, by omega, by go_num, by rw [HF.out, HD.out]; simp⟩
        case measure => simp [intOf]; omega
      · have hb : (x == 0) = false := by simpa using h0
        go_wp2
        go_ret
        exact ⟨by rw [HF.out, HD.out, if_neg h0]; rfl, rfl⟩
    · go_wp2
      go_ret
      exact ⟨by rw [HF.out, List.drop_of_length_le (by omega)]; rfl, rfl⟩

def rowBad (x : Int × Int) : Int := firstE [rgd (decide (0 ≤ x.1) && decide (x.1 ≤ 100000)), echoE x.2]
def ordBad : Option Int → Int → Bool
  | some d, y => decide (y ≤ d)
  | none, _ => false
def ckFrom : Nat → Option Int → List (Int × Int) → Int × Int
  | _, _, [] => (0, 0)
  | i, p, x :: xs => if rowBad x ≠ 0 then (i, rowBad x) else if ordBad p x.1 = true then (i, 9) else ckFrom (i + 1) (some x.1) xs
def ckT (l : List (Int × Int)) : Int × Int := if l.length = 0 then (0, 10) else if 20 < l.length then (0, 8) else ckFrom 0 none l
def prevOf (l : List (Int × Int)) : Nat → Option Int
  | 0 => none
  | k + 1 => (l[k]?).map (·.1)

set_option maxRecDepth 100000 in
set_option maxHeartbeats 1000000 in
theorem checkTable_c (l : List (Int × Int)) (A : Option Addr) (c : Nat) (w : World) (h : RowsS w A l) :
    Calls Tryz.prog 35 #[.slice A l.length c] w fun e w' => e = .returned (.tuple #[.int .i64 (ckT l).1, .int .i64 (ckT l).2]) ∧ Ext w w' := by
  by_cases h0 : l.length = 0
  · have hb : ((l.length : Int) == 0) = true := by simpa using h0
    have hT : ckT l = (0, 10) := by simp [ckT, h0]
    have hT' := Lib.hid hT; clear hT
    go_enter Tryz.func35, Tryz.ntmps35
    go_wp2
    go_ret2
    exact ⟨by rw [hT'.out]; rfl, Ext.refl _⟩
  have hb : ((l.length : Int) == 0) = false := by simpa using h0
  by_cases h1 : 20 < l.length
  · have hT : ckT l = (0, 8) := by simp [ckT, h0, h1]
    have hT' := Lib.hid hT; clear hT
    go_enter Tryz.func35, Tryz.ntmps35
    go_wp2
    go_ret2
    exact ⟨by rw [hT'.out]; rfl, Ext.refl _⟩
  obtain ⟨b, off, rfl, hbl, hR⟩ := h.resolve_left (fun e => h0 (by rw [e]; rfl))
  have hT : ckT l = ckFrom 0 none l := by simp [ckT, h0, h1]
  have hT' := Lib.hid hT; clear hT
  go_enter Tryz.func35, Tryz.ntmps35
  go_wp2
  go_loopw [4, 5, 6, 17] (fun _ _ _ i wr => ∃ k : Nat, k ≤ l.length ∧ i = .int .i64 k ∧ Ext w wr ∧ ckFrom 0 none l = ckFrom k (prevOf l k) (l.drop k)) (fun _ _ _ i _ => l.length - (intOf i).toNat)
  case atStart => exact ⟨0, Nat.zero_le _, rfl, Ext.refl _, rfl⟩
  case round =>
    obtain ⟨k, hk, rfl, hE, hf⟩ := hrel
    have HF := Lib.hid hf; clear hf
    have HHE := Lib.hid hE; clear hE
    by_cases hlt : k < l.length
    · obtain ⟨c1, c2⟩ := hR.ext HHE.out k _ (List.getElem?_eq_getElem hlt)
      have hbw := Nat.lt_of_lt_of_le hbl HHE.out.size
      have hd : ckFrom k (prevOf l k) (l.drop k) = if rowBad l[k] ≠ 0 then ((k : Int), rowBad l[k]) else if ordBad (prevOf l k) l[k].1 = true then ((k : Int), 9) else ckFrom (k + 1) (prevOf l (k + 1)) (l.drop (k + 1)) := by
        rw [List.drop_eq_getElem_cons hlt, show prevOf l (k + 1) = some l[k].1 from by simp [prevOf, hlt]]; rfl
      have HD := Lib.hid hd; clear hd
      generalize l[k] = x at *
      go_wp2
      refine wp_region_T (R := Ext) (fun w' => Ext (wr.alloc (.cells #[.int .i64 x.1, .int .i64 x.2] 38)) w') [(0, 0), (1, 0), (2, 0), (3, 0), (4, 0), (5, 0), (6, 0), (7, 1), (8, 0), (9, 0)] (by kernel_rfl) (by kernel_rfl) (fun _ _ h k => k.trans h) ((Ext.refl _).drew) ?_
      iterate 7
        first
          | (apply wpT_no
             focus (simp only [List.getElem?_toArray, List.getElem?_cons_zero, List.getElem?_cons_succ]; rfl)
             focus rfl
             focus (simp only [Act.put, List.setIfInBounds_toArray, List.set_cons_zero, List.set_cons_succ]; rfl))
          | (apply wpT_ex
             focus (simp only [List.getElem?_toArray, List.getElem?_cons_zero, List.getElem?_cons_succ]; rfl)
             focus rfl
             focus
               intro w1 hC Ψ hΨ
               have d1 : w1.cell? ⟨wr.heap.size, 0, none⟩ = some (.int .i64 x.1) := hC.cell (by simp)
               have d2 : w1.cell? ⟨wr.heap.size, 1, none⟩ = some (.int .i64 x.2) := hC.cell (by simp)
               go_simp; (try (go_bits; (try go_simp)))
               first
                 | exact hΨ _ (Ext.refl _)
                 | (go_at_call 32; refine (within_c _ _ _ _).mono ?_; rintro e w2 ⟨rfl, rfl⟩; exact ⟨_, rfl, hΨ _ (Ext.refl _)⟩)
                 | (go_at_call 46; refine (ranged_c _ _).mono ?_; rintro e w2 ⟨rfl, rfl⟩; exact ⟨_, rfl, hΨ _ (Ext.refl _)⟩)
                 | (go_at_call 26; refine (echoErr_c _ _).mono ?_; rintro e w2 ⟨rfl, rfl⟩; exact ⟨_, rfl, hΨ _ (Ext.refl _)⟩)
             focus (simp only [Act.put, List.setIfInBounds_toArray, List.set_cons_zero, List.set_cons_succ]; rfl))
      apply wpT_fr (fun v w => ∃ g, v = .slice (some ⟨g, 0, none⟩) 2 2 ∧ IntsR w g 0 [rgd (decide (0 ≤ x.1) && decide (x.1 ≤ 100000)), echoE x.2])
      focus (simp only [List.getElem?_toArray, List.getElem?_cons_zero, List.getElem?_cons_succ]; rfl)
      focus rfl
      focus
        rintro v wa wb hab ⟨g, rfl, hg⟩
        exact ⟨g, rfl, fun i y hy => hab.cell (hg i y hy)⟩
      focus
        intro w1 hC Ψ hΨ
        go_simp
        refine hΨ _ _ ((Ext.refl _).alloc _) ⟨_, rfl, ?_⟩
        intro i y hy
        rcases i with _ | _ | i
        · injection hy with hy; subst hy; simp
        · injection hy with hy; subst hy; simp
        · cases hy
      intro v0 a0' ha
      simp only [Act.put, List.setIfInBounds_toArray, List.set_cons_zero, List.set_cons_succ] at ha
      subst ha
      iterate 2
        first
          | (apply wpT_no
             focus (simp only [List.getElem?_toArray, List.getElem?_cons_zero, List.getElem?_cons_succ]; rfl)
             focus rfl
             focus (simp only [Act.put, List.setIfInBounds_toArray, List.set_cons_zero, List.set_cons_succ]; rfl))
          | (apply wpT_ex
             focus (simp only [List.getElem?_toArray, List.getElem?_cons_zero, List.getElem?_cons_succ]; rfl)
             focus rfl
             focus
               intro w1 hC Ψ hΨ
               obtain ⟨hC, g, hv, hv0⟩ := hC; subst hv
               have HV := Lib.hid hv0; clear hv0
               go_simp; (try (go_bits; (try go_simp)))
               first
                 | exact hΨ _ (Ext.refl _)
                 | (go_at_call 25; refine (first_c [_, _] _ _ _ _ HV.out (by simp)).mono ?_; rintro e w2 ⟨rfl, rfl⟩; exact ⟨_, rfl, hΨ _ (Ext.refl _)⟩)
             focus (simp only [Act.put, List.setIfInBounds_toArray, List.set_cons_zero, List.set_cons_succ]; rfl))
      refine wpT_nil ?_
      intro w1 hC
      have hrb : firstE [rgd (decide (0 ≤ x.1) && decide (x.1 ≤ 100000)), echoE x.2] = rowBad x := rfl
      rw [hrb]
      have HC := Lib.hid hC.1; clear hC hrb
      have hE1 : Ext w w1 := (HHE.out.alloc _).trans HC.out
      have HE1 := Lib.hid hE1; clear hE1
      generalize rowBad x = r at *
      by_cases hr : r = 0
      · subst hr
        have e1 : w1.cell? ⟨wr.heap.size, 0, none⟩ = some (.int .i64 x.1) := HC.out.cell (by simp)
        clear c1 c2
        rcases Nat.eq_zero_or_pos k with hk0 | hkp
        · subst hk0
          go_wp2
          refine wp_region_T (R := Ext) (fun w' => Ext (w1) w') [(0, 0), (1, 0), (2, 0), (3, 0), (4, 0), (5, 0), (6, 0), (7, 0), (8, 0), (9, 0), (10, 0), (11, 0), (12, 0)] (by kernel_rfl) (by kernel_rfl) (fun _ _ h k => k.trans h) ((Ext.refl _).drew) ?_
          iterate 13
            first
              | (apply wpT_no
                 focus (simp only [List.getElem?_toArray, List.getElem?_cons_zero, List.getElem?_cons_succ]; rfl)
                 focus rfl
                 focus (simp only [Act.put, List.setIfInBounds_toArray, List.set_cons_zero, List.set_cons_succ]; rfl))
              | (apply wpT_ex
                 focus (simp only [List.getElem?_toArray, List.getElem?_cons_zero, List.getElem?_cons_succ]; rfl)
                 focus rfl
                 focus
                   intro w1 hC Ψ hΨ
                   have d1 := hC.cell e1
                   go_simp; (try (go_bits; (try go_simp)))
                   first
                     | exact hΨ _ (Ext.refl _)
                 focus (simp only [Act.put, List.setIfInBounds_toArray, List.set_cons_zero, List.set_cons_succ]; rfl))
          refine wpT_nil ?_
          intro w2 hC
          have HC := Lib.hid hC; clear hC
          go_wp2
          go_roundw
          case rel => exact ⟨1, by omega, by go_num, HE1.out.trans HC.out, by rw [HF.out, HD.out]; simp [prevOf, ordBad]⟩
          case measure => simp [intOf]; omega
        · obtain ⟨m, rfl⟩ : ∃ m, k = m + 1 := ⟨k - 1, by omega⟩
          have hm : m < l.length := by omega
          have e2 := (hR.ext HE1.out m _ (List.getElem?_eq_getElem hm)).1
          have hp : prevOf l (m + 1) = some l[m].1 := by simp [prevOf, hm]
          rw [hp] at HD HF
          clear hp
          generalize l[m] = y at *
          have hpos : (0 : Int) < (m : Int) + 1 := by omega
          go_wp2
          refine wp_region_T (R := Ext) (fun w' => Ext (w1) w') [(0, 0), (1, 0), (2, 0), (3, 0), (4, 0), (5, 0), (6, 0), (7, 0), (8, 0), (9, 0), (10, 0), (11, 0), (12, 0)] (by kernel_rfl) (by kernel_rfl) (fun _ _ h k => k.trans h) ((Ext.refl _).drew) ?_
          iterate 13
            first
              | (apply wpT_no
                 focus (simp only [List.getElem?_toArray, List.getElem?_cons_zero, List.getElem?_cons_succ]; rfl)
                 focus rfl
                 focus (simp only [Act.put, List.setIfInBounds_toArray, List.set_cons_zero, List.set_cons_succ]; rfl))
              | (apply wpT_ex
                 focus (simp only [List.getElem?_toArray, List.getElem?_cons_zero, List.getElem?_cons_succ]; rfl)
                 focus rfl
                 focus
                   intro w1 hC Ψ hΨ
                   have d1 := hC.cell e1
                   have d2 := hC.cell e2
                   go_simp; (try (go_bits; (try go_simp)))
                   first
                     | exact hΨ _ (Ext.refl _)
                 focus (simp only [Act.put, List.setIfInBounds_toArray, List.set_cons_zero, List.set_cons_succ]; rfl))
          refine wpT_nil ?_
          intro w2 hC
          have HC := Lib.hid hC; clear hC
          by_cases hle : x.1 ≤ y.1
          · go_wp2
            go_ret2
            have hz : ckT l = ((m : Int) + 1, 9) := by rw [hT'.out, HF.out, HD.out]; simp [hle, ordBad]
            exact ⟨by rw [hz]; rfl, HE1.out.trans HC.out⟩
          · go_wp2
            go_roundw
            case rel => exact ⟨m + 1 + 1, by omega, by go_num, HE1.out.trans HC.out, by rw [HF.out, HD.out]; simp [hle, ordBad]⟩
            case measure => simp [intOf]; omega
      · have hrb : (r == 0) = false := by simpa using hr
        go_wp2
        go_ret2
        exact ⟨by rw [hT'.out, HF.out, HD.out, if_pos hr]; rfl, HE1.out⟩
    · go_wp2
      go_ret2
      exact ⟨by rw [hT'.out, HF.out, List.drop_of_length_le (by omega)]; rfl, HHE.out⟩
end Go.Proofs.YtepaabbfindaeaaGreatDoor
namespace Go.Proofs.YtepaabbfindaeaaGreatDoor
open Go.RowKit

theorem tdiv_floor (n d : Int) (hd : 1 ≤ d) : (n.tmod d < 0 → n.tdiv d - 1 = n / d) ∧ (¬ n.tmod d < 0 → n.tdiv d = n / d) := by
  have e : n.tmod d = n - d * n.tdiv d := by have := Int.mul_tdiv_add_tmod n d; omega
  have h1 : n.tmod d < d := Int.tmod_lt_of_pos n (by omega)
  have h2 : -d < n.tmod d := by
    have := Int.tmod_lt_of_pos (-n) (show 0 < d by omega)
    rw [Int.neg_tmod] at this; omega
  constructor
  · intro h
    have : n / d = n.tdiv d - 1 := by
      refine (Int.ediv_emod_unique (a := n) (b := d) (r := n.tmod d + d) (q := n.tdiv d - 1) (by omega)).2 ⟨?_, by omega, by omega⟩ |>.1
      rw [Int.mul_sub]; omega
    omega
  · intro h
    have : n / d = n.tdiv d := by
      refine (Int.ediv_emod_unique (a := n) (b := d) (r := n.tmod d) (q := n.tdiv d) (by omega)).2 ⟨?_, by omega, by omega⟩ |>.1
      omega
    omega

theorem div_bound (n d : Int) (hd : 1 ≤ d) (h1 : -9223372036854775807 ≤ n) (h2 : n ≤ 9223372036854775807) : -9223372036854775807 ≤ n / d ∧ n / d ≤ 9223372036854775807 := by
  constructor
  · exact (Int.le_ediv_iff_mul_le (by omega)).2 (by have : (-9223372036854775807) * d ≤ -9223372036854775807 := by omega
                                                    omega)
  · by_cases h : 0 ≤ n
    · have := Int.ediv_le_self d h; omega
    · have : n / d < 0 := Int.ediv_neg_of_neg_of_pos (by omega) (by omega); omega
theorem tdiv_bound (n d : Int) (hd : 1 ≤ d) (h1 : -9223372036854775807 ≤ n) (h2 : n ≤ 9223372036854775807) : -9223372036854775807 ≤ n.tdiv d ∧ n.tdiv d ≤ 9223372036854775807 := by
  have h := tdiv_floor n d hd
  have hb := div_bound n d hd h1 h2
  by_cases hm : n.tmod d < 0
  · have := h.1 hm
    have hn : n < 0 := by
      by_cases h : 0 ≤ n
      · have := Int.tmod_nonneg d h; omega
      · omega
    have hz : n.tdiv d ≤ 0 := by
      have := Int.tdiv_nonneg (a := -n) (b := d) (by omega) (by omega)
      rw [Int.neg_tdiv] at this; omega
    omega
  · have := h.2 hm; omega

set_option maxHeartbeats 400000 in
theorem floor_c (n d : Int) (w : World) (h0 : 1 ≤ d) (h1 : -9223372036854775807 ≤ n) (h2 : n ≤ 9223372036854775807) :
    Calls Tryz.prog 47 #[.int .i64 n, .int .i64 d] w fun e w' => e = .returned (.int .i64 (n / d)) ∧ w = w' := by
  have hf := tdiv_floor n d h0
  have HF := Lib.hid hf; clear hf
  have hb := tdiv_bound n d h0 h1 h2
  obtain ⟨b1, b2⟩ := hb
  have hb' := div_bound n d h0 h1 h2
  have HB := Lib.hid hb'; clear hb'
  by_cases hm : n.tmod d < 0
  · have e1 := HF.out.1 hm
    have E1 := Lib.hid e1
    have e2 : -9223372036854775807 ≤ n.tdiv d - 1 := by have := HB.out; omega
    clear e1
    go_enter Tryz.func47, Tryz.ntmps47
    go_wp2
    go_ret
    exact ⟨by rw [← E1.out]; rfl, rfl⟩
  · have e1 := HF.out.2 hm
    have E1 := Lib.hid e1
    clear e1
    go_enter Tryz.func47, Tryz.ntmps47
    go_wp2
    go_ret
    exact ⟨by rw [← E1.out]; rfl, rfl⟩
def ceD (n d : Int) : Int := -((-n) / d)
set_option maxHeartbeats 400000 in
theorem ceil_c (n d : Int) (w : World) (h0 : 1 ≤ d) (h1 : -9223372036854775807 ≤ n) (h2 : n ≤ 9223372036854775807) :
    Calls Tryz.prog 48 #[.int .i64 n, .int .i64 d] w fun e w' => e = .returned (.int .i64 (ceD n d)) ∧ w = w' := by
  obtain ⟨b1, b2⟩ := div_bound (-n) d h0 (by omega) (by omega)
  go_enter Tryz.func48, Tryz.ntmps48
  go_wp2_with (first | (go_at_call 47; refine (floor_c _ _ _ h0 (by omega) (by omega)).mono ?_; rintro e w' ⟨rfl, rfl⟩))
  go_ret
  exact ⟨rfl, rfl⟩
theorem ret_int {k : IntKind} {a b : Int} (h : a = b) : Ending.returned (.int k a) = .returned (.int k b) := by rw [h]
theorem size_c (n : Int) (w : World) (h1 : -9223372036854775807 ≤ n) (h2 : n ≤ 9223372036854775807) :
    Calls Tryz.prog 57 #[.int .i64 n] w fun e w' => e = .returned (.int .i64 (n.natAbs : Int)) ∧ w = w' := by
  go_enter Tryz.func57, Tryz.ntmps57
  go_wp2
  · go_ret
    exact ⟨ret_int (a := -n) (by omega), rfl⟩
  · go_ret
    exact ⟨ret_int (a := n) (by omega), rfl⟩

def enc (s : Int × Int) : Int × Int := (s.1 / s.2, ceD s.1 s.2)
set_option maxRecDepth 100000 in
set_option maxHeartbeats 1000000 in
theorem enclosed_c (n d : Int) (w : World) (h0 : 1 ≤ d) (h1 : -9223372036854775807 ≤ n) (h2 : n ≤ 9223372036854775807) :
    Calls Tryz.prog 28 #[.agg #[.int .i64 n, .int .i64 d]] w fun e w' => e = .returned (.agg #[.int .i64 (enc (n, d)).1, .int .i64 (enc (n, d)).2]) ∧ Ext w w' := by
  go_enter Tryz.func28, Tryz.ntmps28
  go_wp2
  generalize hW : (w.alloc (Obj.cells #[Value.int IntKind.i64 n, Value.int IntKind.i64 d] 69)).alloc (Obj.cells #[Value.int IntKind.i64 0, Value.int IntKind.i64 0] 34) = W
  have e1 : W.cell? ⟨w.heap.size, 0, none⟩ = some (.int .i64 n) := by subst hW; simp
  have e2 : W.cell? ⟨w.heap.size, 1, none⟩ = some (.int .i64 d) := by subst hW; simp
  have HW := Lib.hid hW; clear hW
  have e3 : W.cell? ⟨w.heap.size + 1, 0, none⟩ = some (.int .i64 0) := by rw [← HW.out]; simp
  have e4 : W.cell? ⟨w.heap.size + 1, 1, none⟩ = some (.int .i64 0) := by rw [← HW.out]; simp
  have z1 : w.heap.size + 1 < W.heap.size := by rw [← HW.out]; simp
  have f3 : W.frozen? ⟨w.heap.size + 1, 0, none⟩ = false := by rw [← HW.out]; simp
  have f4 : W.frozen? ⟨w.heap.size + 1, 1, none⟩ = false := by rw [← HW.out]; simp
  refine wp_region_Tt (R := Ext) 11 (fun w' => Ext (W) w') [(0, 0), (1, 0), (2, 0), (3, 0), (4, 0), (5, 0), (6, 0), (7, 0), (8, 0), (9, 0), (10, 0)] (by kernel_rfl) (by kernel_rfl) (fun _ _ h k => k.trans h) ((Ext.refl _).drew) ?_
  iterate 11
    first
      | (apply wpT_no
         focus (simp only [List.getElem?_toArray, List.getElem?_cons_zero, List.getElem?_cons_succ]; rfl)
         focus rfl
         focus (simp only [Act.put, List.setIfInBounds_toArray, List.set_cons_zero, List.set_cons_succ]; rfl))
      | (apply wpT_ex
         focus (simp only [List.getElem?_toArray, List.getElem?_cons_zero, List.getElem?_cons_succ]; rfl)
         focus rfl
         focus
           intro w1 hC Ψ hΨ
           have d1 := hC.cell e1
           have d2 := hC.cell e2
           go_simp; (try (go_bits; (try go_simp)))
           first
             | exact hΨ _ (Ext.refl _)
             | (go_at_call 47; refine (floor_c _ _ _ (by assumption) (by assumption) (by assumption)).mono ?_; rintro e w2 ⟨rfl, rfl⟩; exact ⟨_, rfl, hΨ _ (Ext.refl _)⟩)
             | (go_at_call 48; refine (ceil_c _ _ _ (by assumption) (by assumption) (by assumption)).mono ?_; rintro e w2 ⟨rfl, rfl⟩; exact ⟨_, rfl, hΨ _ (Ext.refl _)⟩)
         focus (simp only [Act.put, List.setIfInBounds_toArray, List.set_cons_zero, List.set_cons_succ]; rfl))
  refine wpT_nil ?_
  intro w1 hC
  simp only [List.drop_succ_cons, List.drop_zero]
  have c3 := hC.cell e3
  have c4 := hC.cell e4
  have g3 := hC.fz z1 f3
  have g4 := hC.fz z1 f4
  have HC := Lib.hid hC; clear hC e1 e2 e3 e4 f3 f4
  go_wp2
  refine bodyPost_ret (v := .agg #[.int .i64 (enc (n, d)).1, .int .i64 (enc (n, d)).2]) (by simp [results, Tryz.results28, go_sem, c3, c4, enc]) rfl ⟨rfl, ?_⟩
  have hE0 : Ext w W := by rw [← HW.out]; exact ((Ext.refl w).alloc _).alloc _
  refine Ext.set (Ext.set (hE0.trans HC.out) ?_ _) ?_ _ <;> (first | omega | (simp; done) | (simp; omega))

set_option maxHeartbeats 1000000 in
theorem over_c (n d m : Int) (w : World) (h1 : -9223372036854775807 ≤ m * d) (h2 : m * d ≤ 9223372036854775807) :
    Calls Tryz.prog 27 #[.agg #[.int .i64 n, .int .i64 d], .int .i64 m] w fun e w' => e = .returned (.agg #[.int .i64 (m * d), .int .i64 n]) ∧ Ext w w' := by
  go_enter Tryz.func27, Tryz.ntmps27
  go_wp2
  refine bodyPost_ret (v := .agg #[.int .i64 (m * d), .int .i64 n]) (by simp [results, Tryz.results27, go_sem]) rfl ⟨rfl, ?_⟩
  exact ((Ext.refl w).alloc _).alloc _

def btw (a b : Int × Int) (d : Int) : Int × Int := if a = b then (a.2, 1) else (a.2 * (b.1 - a.1) + (b.2 - a.2) * (d - a.1), b.1 - a.1)
def RowOk (x : Int × Int) : Prop := 0 ≤ x.1 ∧ x.1 ≤ 100000 ∧ 1 ≤ x.2 ∧ x.2 ≤ 1000000
theorem mul_le_of {a b A B : Int} (h1 : -A ≤ a) (h2 : a ≤ A) (h3 : -B ≤ b) (h4 : b ≤ B) : -(A * B) ≤ a * b ∧ a * b ≤ A * B := by
  have hA : 0 ≤ A := by omega
  have hB : 0 ≤ B := by omega
  have k1 : a.natAbs ≤ A.natAbs := by omega
  have k2 : b.natAbs ≤ B.natAbs := by omega
  have k3 := Nat.mul_le_mul k1 k2
  rw [← Int.natAbs_mul, ← Int.natAbs_mul] at k3
  have : 0 ≤ A * B := Int.mul_nonneg hA hB
  omega
theorem btw_b (a b : Int × Int) (d : Int) (ha : RowOk a) (hb : RowOk b) (hd : 0 ≤ d ∧ d ≤ 100000) :
    (-100000000000 ≤ a.2 * (b.1 - a.1) ∧ a.2 * (b.1 - a.1) ≤ 100000000000) ∧ (-100000000000 ≤ (b.2 - a.2) * (d - a.1) ∧ (b.2 - a.2) * (d - a.1) ≤ 100000000000) := by
  obtain ⟨a1, a2, a3, a4⟩ := ha
  obtain ⟨b1, b2, b3, b4⟩ := hb
  have := mul_le_of (a := a.2) (b := b.1 - a.1) (A := 1000000) (B := 100000) (by omega) (by omega) (by omega) (by omega)
  have := mul_le_of (a := b.2 - a.2) (b := d - a.1) (A := 1000000) (B := 100000) (by omega) (by omega) (by omega) (by omega)
  omega

set_option maxRecDepth 100000 in
set_option maxHeartbeats 1000000 in
theorem between_c (a b : Int × Int) (d : Int) (w : World) (ha : RowOk a) (hb : RowOk b) (h0 : 0 ≤ d) (h1 : d ≤ 100000) (hab : a = b ∨ a.1 < b.1) :
    Calls Tryz.prog 45 #[.agg #[.int .i64 a.1, .int .i64 a.2], .agg #[.int .i64 b.1, .int .i64 b.2], .int .i64 d] w fun e w' => e = .returned (.agg #[.int .i64 (btw a b d).1, .int .i64 (btw a b d).2]) ∧ Ext w w' := by
  have hm := btw_b a b d ha hb ⟨h0, h1⟩
  obtain ⟨⟨m1, m2⟩, m3, m4⟩ := hm
  obtain ⟨a1, a2, a3, a4⟩ := ha
  obtain ⟨b1, b2, b3, b4⟩ := hb
  rcases hab with rfl | hlt
  · clear m1 m2 m3 m4
    have hz : btw a a d = (a.2, 1) := by simp [btw]
    have HZ := Lib.hid hz; clear hz
    go_enter Tryz.func45, Tryz.ntmps45
    go_wp2
    rw [HZ.out]
    refine bodyPost_ret (v := .agg #[.int .i64 a.2, .int .i64 1]) (by simp [results, Tryz.results45, go_sem]) rfl ⟨rfl, ?_⟩
    exact (((Ext.refl w).alloc _).alloc _).alloc _
  · have hne : a ≠ b := fun e => by subst e; omega
    have hz : btw a b d = (a.2 * (b.1 - a.1) + (b.2 - a.2) * (d - a.1), b.1 - a.1) := by simp [btw, hne]
    have HZ := Lib.hid hz; clear hz
    have hb1 : (a.1 == b.1) = false := by simp; omega
    clear hne
    go_enter Tryz.func45, Tryz.ntmps45
    go_wp2
    rw [HZ.out]
    refine bodyPost_ret (v := .agg #[.int .i64 (a.2 * (b.1 - a.1) + (b.2 - a.2) * (d - a.1)), .int .i64 (b.1 - a.1)]) (by simp [results, Tryz.results45, go_sem]) rfl ⟨rfl, ?_⟩
    exact (((Ext.refl w).alloc _).alloc _).alloc _

end Go.Proofs.YtepaabbfindaeaaGreatDoor
namespace Go.Proofs.YtepaabbfindaeaaGreatDoor
open Go.RowKit

theorem rowBad_zero {x : Int × Int} : rowBad x = 0 ↔ RowOk x := by
  simp only [rowBad, firstE, echoE]
  by_cases h1 : (decide (0 ≤ x.1) && decide (x.1 ≤ 100000)) = true <;> by_cases h2 : (decide (1 ≤ x.2) && decide (x.2 ≤ 1000000)) = true
  all_goals (simp [rgd, h1, h2, RowOk]; simp at h1 h2; omega)
def Asc (l : List (Int × Int)) : Prop := l.Pairwise fun a b => a.1 < b.1
theorem ckFrom_ok : ∀ (l : List (Int × Int)) (i : Nat) (p : Option Int), (ckFrom i p l).2 = 0 → (∀ x ∈ l, RowOk x) ∧ Asc l ∧ ∀ d, p = some d → ∀ x ∈ l, d < x.1
  | [], _, _, _ => ⟨by simp, List.Pairwise.nil, by simp⟩
  | x :: xs, i, p, h => by
    unfold ckFrom at h
    by_cases h1 : rowBad x ≠ 0
    · rw [if_pos h1] at h; exact absurd h h1
    rw [if_neg h1] at h
    have hx : RowOk x := rowBad_zero.1 (by simpa using h1)
    cases p with
    | none =>
      simp only [ordBad, Bool.false_eq_true, if_false] at h
      obtain ⟨k1, k2, k3⟩ := ckFrom_ok xs _ _ h
      exact ⟨by intro y hy; rcases List.mem_cons.1 hy with rfl | hy; exact hx; exact k1 y hy, List.Pairwise.cons (fun y hy => k3 x.1 rfl y hy) k2, by simp⟩
    | some d =>
      by_cases h2 : x.1 ≤ d
      · rw [if_pos (by simpa [ordBad] using h2)] at h; simp at h
      rw [if_neg (by simpa [ordBad] using h2)] at h
      obtain ⟨k1, k2, k3⟩ := ckFrom_ok xs _ _ h
      refine ⟨by intro y hy; rcases List.mem_cons.1 hy with rfl | hy; exact hx; exact k1 y hy, List.Pairwise.cons (fun y hy => k3 x.1 rfl y hy) k2, ?_⟩
      rintro d' ⟨⟩ y hy
      rcases List.mem_cons.1 hy with rfl | hy
      · omega
      · have := k3 x.1 rfl y hy; omega
structure TabOk (l : List (Int × Int)) : Prop where
  pos : 0 < l.length
  few : l.length ≤ 20
  row : ∀ x ∈ l, RowOk x
  asc : Asc l
theorem ckT_ok {l : List (Int × Int)} (h : (ckT l).2 = 0) : TabOk l ∧ (ckT l).1 = 0 := by
  unfold ckT at h ⊢
  by_cases h0 : l.length = 0
  · rw [if_pos h0] at h; simp at h
  rw [if_neg h0] at h ⊢
  by_cases h1 : 20 < l.length
  · rw [if_pos h1] at h; simp at h
  rw [if_neg h1] at h ⊢
  obtain ⟨k1, k2, _⟩ := ckFrom_ok _ _ _ h
  refine ⟨⟨by omega, by omega, k1, k2⟩, ?_⟩
  clear k1 k2 h0 h1
  generalize 0 = i at h ⊢
  generalize (none : Option Int) = p at h
  have gen : ∀ (l : List (Int × Int)) (i : Nat) (p : Option Int), (ckFrom i p l).2 = 0 → (ckFrom i p l).1 = 0 := by
    intro l
    induction l with
    | nil => intro _ _ _; rfl
    | cons x xs ih =>
      intro i p h
      unfold ckFrom at h ⊢
      by_cases h1 : rowBad x ≠ 0
      · rw [if_pos h1] at h; exact absurd h h1
      rw [if_neg h1] at h ⊢
      by_cases h2 : ordBad p x.1 = true
      · rw [if_pos h2] at h; simp at h
      · rw [if_neg h2] at h ⊢; exact ih _ _ h
  exact gen l i p h
theorem TabOk.get {l : List (Int × Int)} (h : TabOk l) {i : Nat} (hi : i < l.length) : RowOk l[i] := h.row _ (List.getElem_mem hi)
theorem TabOk.lt {l : List (Int × Int)} (h : TabOk l) {i j : Nat} (hj : j < l.length) (hij : i < j) : l[i].1 < l[j].1 := List.pairwise_iff_getElem.1 h.asc i j (by omega) hj hij

theorem set2 {w W : World} (h : Ext w W) {a b : Addr} (ha : w.heap.size ≤ a.block) (hb : w.heap.size ≤ b.block) (u v : Value) : Ext w ((W.setCell a u).setCell b v) := (h.set ha _).set hb _

theorem checkTable_ok_c (l : List (Int × Int)) (A : Option Addr) (c : Nat) (w : World) (h0 : (ckT l).2 = 0) (h : RowsS w A l) :
    Calls Tryz.prog 35 #[.slice A l.length c] w fun e w' => e = .returned (.tuple #[.int .i64 0, .int .i64 0]) ∧ Ext w w' := by
  have hc := checkTable_c l A c w h
  rw [h0, (ckT_ok h0).2] at hc
  exact hc
end Go.Proofs.YtepaabbfindaeaaGreatDoor
namespace Go.Proofs.YtepaabbfindaeaaGreatDoor
open Go.RowKit

theorem first2_c (a b : Int) (g : Nat) (w : World) (h0 : w.cell? ⟨g, 0, none⟩ = some (.int .i64 a)) (h1 : w.cell? ⟨g, 1, none⟩ = some (.int .i64 b)) :
    Calls Tryz.prog 25 #[.slice (some ⟨g, 0, none⟩) 2 2] w fun e w' => e = .returned (.int .i64 (firstE [a, b])) ∧ w = w' := by
  refine first_c [a, b] g 0 2 w (fun i x hx => ?_) (by simp)
  rcases i with _ | _ | i
  · injection hx with hx; subst hx; exact h0
  · injection hx with hx; subst hx; exact h1
  · cases hx
end Go.Proofs.YtepaabbfindaeaaGreatDoor
namespace Go.Proofs.YtepaabbfindaeaaGreatDoor
open Go.RowKit

def dev (a b r : Int × Int) : Int := (btw a b r.1).1 - r.2 * (btw a b r.1).2
def okAt (a b r : Int × Int) (s : Int) : Bool := decide (((dev a b r).natAbs : Int) ≤ s * (btw a b r.1).2)
def spansS (l : List (Int × Int)) (i k : Nat) (s : Int) : Bool := ((l.take k).drop (i + 1)).all fun r => okAt (l.getD i (0, 0)) (l.getD k (0, 0)) r s

theorem btw_bd (a b : Int × Int) (d : Int) (ha : RowOk a) (hb : RowOk b) (hab : a = b ∨ a.1 < b.1) (hd : 0 ≤ d ∧ d ≤ 100000) :
    -200000000000 ≤ (btw a b d).1 ∧ (btw a b d).1 ≤ 200000000000 ∧ 1 ≤ (btw a b d).2 ∧ (btw a b d).2 ≤ 100000 := by
  have hm := btw_b a b d ha hb hd
  obtain ⟨a1, a2, a3, a4⟩ := ha
  obtain ⟨b1, b2, b3, b4⟩ := hb
  simp only [btw]
  by_cases h : a = b
  · simp only [h, if_true]; omega
  · simp only [h, if_false]
    have := hab.resolve_left h
    omega

set_option maxRecDepth 100000 in
set_option maxHeartbeats 2000000 in
theorem spans_c (l : List (Int × Int)) (A : Option Addr) (c : Nat) (i k : Nat) (s : Int) (w : World) (h : RowsS w A l) (hT : TabOk l) (hik : i < k) (hk : k < l.length) (hc : l.length ≤ c) (hc2 : c ≤ 9223372036854775807) (hs0 : 0 ≤ s) (hs1 : s ≤ 1000000) :
    Calls Tryz.prog 36 #[.slice A l.length c, .int .i64 i, .int .i64 k, .int .i64 s] w fun e w' => e = .returned (.bool (spansS l i k s)) ∧ Ext w w' := by
  have hpos := hT.pos
  obtain ⟨b, off, rfl, hbl, hR⟩ := h.resolve_left (fun e => by rw [e] at hpos; simp at hpos)
  have hi : i < l.length := by omega
  have hro := hT.get hi
  have hso := hT.get hk
  have hab := hT.lt hk hik
  have HT := Lib.hid hT; clear hT h
  obtain ⟨c1, c2⟩ := hR i _ (List.getElem?_eq_getElem hi)
  obtain ⟨c3, c4⟩ := hR k _ (List.getElem?_eq_getElem hk)
  have HR := Lib.hid hR; clear hR
  have hz : spansS l i k s = ((l.take k).drop (i + 1)).all fun r => okAt l[i] l[k] r s := by simp [spansS, hi, hk]
  have HZ := Lib.hid hz; clear hz
  have HC := Lib.hid (And.intro (And.intro c1 c2) (And.intro c3 c4)); clear c1 c2 c3 c4
  generalize l[i] = x at *
  generalize l[k] = y at *
  have HSO := Lib.hid (And.intro hso (Or.inr hab : x = y ∨ x.1 < y.1)); clear hso
  have hll := HT.out.few
  have hci : ¬ c = i + 1 := by omega
  go_enter Tryz.func36, Tryz.ntmps36
  go_wp2
  obtain ⟨L, hL⟩ : ∃ L, (l.take k).drop (i + 1) = L := ⟨_, rfl⟩
  have hLl : L.length = k - (i + 1) := by rw [← hL, List.length_drop, List.length_take]; omega
  have hLg : ∀ j (hj : j < L.length), ∃ h : i + 1 + j < l.length, L[j] = l[i + 1 + j] := fun j hj => ⟨by omega, by subst hL; simp⟩
  rw [hL] at HZ
  have HLG := Lib.hid hLg; clear hLg hL
  have HLL := Lib.hid hLl
  rw [← hLl]
  clear hLl
  go_loopw [10, 11, 18] (fun _ _ i wr => ∃ j : Nat, j ≤ L.length ∧ i = .int .i64 j ∧ Ext w wr ∧ (L.all fun r => okAt x y r s) = (L.drop j).all fun r => okAt x y r s) (fun _ _ i _ => L.length - (intOf i).toNat)
  case atStart => exact ⟨0, Nat.zero_le _, rfl, Ext.refl _, rfl⟩
  case round =>
    obtain ⟨j, hj, rfl, hE, hf⟩ := hrel
    have HF := Lib.hid hf; clear hf
    have HE := Lib.hid hE; clear hE
    by_cases hlt : j < L.length
    · obtain ⟨hjl, hrl⟩ := HLG.out j hlt
      obtain ⟨c5, c6⟩ := HR.out.ext HE.out (i + 1 + j) _ (List.getElem?_eq_getElem hjl)
      have hrow := HT.out.get hjl
      rw [show off + (i + 1 + j) * 2 = off + (i + 1) * 2 + j * 2 by omega] at c5 c6
      have hd : ((L.drop j).all fun r => okAt x y r s) = (okAt x y L[j] s && (L.drop (j + 1)).all fun r => okAt x y r s) := by
        rw [List.drop_eq_getElem_cons hlt]; rfl
      rw [hrl] at hd
      have HD := Lib.hid hd; clear hd hrl
      generalize l[i + 1 + j] = r at *
      have hbw := Nat.lt_of_lt_of_le hbl HE.out.size
      have hrd0 := hrow.1
      have hrd1 := hrow.2.1
      have hbb := btw_b x y r.1 hro HSO.out.1 ⟨hrd0, hrd1⟩
      have hll' := HLL.out
      go_wp2
      generalize hW : wr.alloc (Obj.cells #[Value.int IntKind.i64 r.fst, Value.int IntKind.i64 r.snd] 38) = W
      have hEW : Ext wr W := by subst hW; exact (Ext.refl _).alloc _
      have k1 := hEW.cell (HE.out.cell HC.out.1.1)
      have k2 := hEW.cell (HE.out.cell HC.out.1.2)
      have k3 := hEW.cell (HE.out.cell HC.out.2.1)
      have k4 := hEW.cell (HE.out.cell HC.out.2.2)
      have k5 : W.cell? ⟨wr.heap.size, 0, none⟩ = some (.int .i64 r.1) := by subst hW; simp
      have k6 : W.cell? ⟨wr.heap.size, 1, none⟩ = some (.int .i64 r.2) := by subst hW; simp
      have hEw := HE.out.trans hEW
      have hWs : wr.heap.size < W.heap.size := by subst hW; simp
      have HEW := Lib.hid hEw
      clear hW hEW hEw c5 c6
      have hbW : b < W.heap.size := Nat.lt_of_lt_of_le hbl HEW.out.size
      have n1 : (i : Int) < (l.length : Int) := by omega
      have n2 : (k : Int) < (l.length : Int) := by omega
      refine wp_region_Tt (R := Ext) 12 (fun w' => Ext (W) w') [(0, 0), (1, 0), (2, 0), (3, 0), (4, 0), (5, 0), (6, 0), (7, 0), (8, 0), (9, 0), (10, 0), (11, 1)] (by kernel_rfl) (by kernel_rfl) (fun _ _ h k => k.trans h) ((Ext.refl _).drew) ?_
      iterate 10
        first
          | (apply wpT_no
             focus (simp only [List.getElem?_toArray, List.getElem?_cons_zero, List.getElem?_cons_succ]; rfl)
             focus rfl
             focus (simp only [Act.put, List.setIfInBounds_toArray, List.set_cons_zero, List.set_cons_succ]; rfl))
          | (apply wpT_ex
             focus (simp only [List.getElem?_toArray, List.getElem?_cons_zero, List.getElem?_cons_succ]; rfl)
             focus rfl
             focus
               intro w1 hC Ψ hΨ
               have d1 := hC.cell k1
               have d2 := hC.cell k2
               have d3 := hC.cell k3
               have d4 := hC.cell k4
               have d5 := hC.cell k5
               have d6 := hC.cell k6
               go_simp; (try (go_bits; (try go_simp)))
               first
                 | exact hΨ _ (Ext.refl _)
             focus (simp only [Act.put, List.setIfInBounds_toArray, List.set_cons_zero, List.set_cons_succ]; rfl))
      iterate 1
        first
          | (apply wpT_no
             focus (simp only [List.getElem?_toArray, List.getElem?_cons_zero, List.getElem?_cons_succ]; rfl)
             focus rfl
             focus (simp only [Act.put, List.setIfInBounds_toArray, List.set_cons_zero, List.set_cons_succ]; rfl))
          | (apply wpT_ex
             focus (simp only [List.getElem?_toArray, List.getElem?_cons_zero, List.getElem?_cons_succ]; rfl)
             focus rfl
             focus
               intro w1 hC Ψ hΨ
               skip
               go_simp; (try (go_bits; (try go_simp)))
               first
                 | exact hΨ _ (Ext.refl _)
                 | (go_at_call 45; refine (between_c _ _ _ _ hro HSO.out.1 hrd0 hrd1 HSO.out.2).mono ?_; rintro e w2 ⟨rfl, hE2⟩; exact ⟨_, rfl, hΨ _ hE2⟩)
             focus (simp only [Act.put, List.setIfInBounds_toArray, List.set_cons_zero, List.set_cons_succ]; rfl))
      apply wpT_fr (fun v w => ∃ g, v = .pointer (some ⟨g, 0, none⟩) ∧ W.heap.size ≤ g ∧ Blk2 w g (.int .i64 0) (.int .i64 0))
      focus (simp only [List.getElem?_toArray, List.getElem?_cons_zero, List.getElem?_cons_succ]; rfl)
      focus rfl
      focus
        rintro v wa wb hab ⟨g, rfl, hg, hb⟩
        exact ⟨g, rfl, hg, hb.ext hab⟩
      focus
        intro w1 hC Ψ hΨ
        go_simp
        exact hΨ _ _ ((Ext.refl _).alloc _) ⟨_, rfl, hC.size, Blk2.new _ _ _ _⟩
      intro v0 a0' ha
      simp only [Act.put, List.setIfInBounds_toArray, List.set_cons_zero, List.set_cons_succ] at ha
      subst ha
      refine wpT_nil ?_
      intro w3 hC
      simp only [List.drop_succ_cons, List.drop_zero]
      obtain ⟨hC0, g, hv, hgW, hB⟩ := hC
      subst hv
      obtain ⟨b0, b1, b2, b3, b4⟩ := hB
      have k6' := hC0.cell k6
      have HC0 := Lib.hid hC0; clear hC0 k1 k2 k3 k4 k5 k6
      have hqb := btw_bd x y r.1 hro HSO.out.1 HSO.out.2 ⟨hrd0, hrd1⟩
      obtain ⟨q, hq⟩ : ∃ q, btw x y r.1 = q := ⟨_, rfl⟩
      rw [hq] at hqb ⊢
      obtain ⟨q1, q2, q3, q4⟩ := hqb
      have hr2 := hrow.2.2
      have hsd := mul_le_of (a := s) (b := q.2) (A := 1000000) (B := 100000) (by omega) (by omega) (by omega) (by omega)
      have hrd := mul_le_of (a := r.2) (b := q.2) (A := 1000000) (B := 100000) (by omega) (by omega) (by omega) (by omega)
      obtain ⟨s1, s2⟩ := hsd
      obtain ⟨s3, s4⟩ := hrd
      have hok : okAt x y r s = decide (((q.1 - r.2 * q.2).natAbs : Int) ≤ s * q.2) := by simp [okAt, dev, hq]
      rw [hok] at HD
      have s5 : -9223372036854775807 ≤ q.1 - r.2 * q.2 := by omega
      have s6 : q.1 - r.2 * q.2 ≤ 9223372036854775807 := by omega
      clear hok hbb hrow hq
      go_wp2
      generalize hW4 : (w3.setCell { block := g, off := 0 } (Value.int IntKind.i64 q.fst)).setCell { block := g, off := 1 } (Value.int IntKind.i64 q.snd) = W4
      have hB4 : Blk2 W4 g (.int .i64 q.1) (.int .i64 q.2) := by subst hW4; exact Blk2.put ⟨b0, b1, b2, b3, b4⟩ _ _
      have j1 := hB4.c0
      have j2 := hB4.c1
      have j3 : W4.cell? ⟨wr.heap.size, 1, none⟩ = some (.int .i64 r.2) := by subst hW4; exact put2_far k6' (by have := hWs; simp only; omega) _ _ _ _
      have hE4 : Ext w W4 := by subst hW4; exact (HEW.out.trans HC0.out).put2 (Nat.le_trans HEW.out.size hgW) _ _
      clear hB4
      have HE4 := Lib.hid hE4; clear hE4 hW4
      refine wp_region_T (R := Ext) (fun w' => Ext (W4) w') [(0, 0), (1, 0), (2, 0), (3, 0), (4, 0), (5, 0), (6, 0), (7, 0), (8, 0), (9, 0), (10, 0), (11, 0), (12, 0), (13, 0)] (by kernel_rfl) (by kernel_rfl) (fun _ _ h k => k.trans h) ((Ext.refl _).drew) ?_
      iterate 14
        first
          | (apply wpT_no
             focus (simp only [List.getElem?_toArray, List.getElem?_cons_zero, List.getElem?_cons_succ]; rfl)
             focus rfl
             focus (simp only [Act.put, List.setIfInBounds_toArray, List.set_cons_zero, List.set_cons_succ]; rfl))
          | (apply wpT_ex
             focus (simp only [List.getElem?_toArray, List.getElem?_cons_zero, List.getElem?_cons_succ]; rfl)
             focus rfl
             focus
               intro w1 hC Ψ hΨ
               have d1 := hC.cell j1
               have d2 := hC.cell j2
               have d3 := hC.cell j3
               go_simp; (try (go_bits; (try go_simp)))
               first
                 | exact hΨ _ (Ext.refl _)
                 | (go_at_call 57; refine (size_c _ _ (by assumption) (by assumption)).mono ?_; rintro e w2 ⟨rfl, rfl⟩; exact ⟨_, rfl, hΨ _ (Ext.refl _)⟩)
             focus (simp only [Act.put, List.setIfInBounds_toArray, List.set_cons_zero, List.set_cons_succ]; rfl))
      refine wpT_nil ?_
      intro w5 hC
      have HC5 := Lib.hid hC; clear hC
      by_cases hle : ((q.1 - r.2 * q.2).natAbs : Int) ≤ s * q.2
      · go_wp2
        go_roundw
        case rel => exact ⟨j + 1, by omega, by go_num, HE4.out.trans HC5.out, by rw [HF.out, HD.out]; simp [hle]⟩
        case measure => simp [intOf]; omega
      · have hz : spansS l i k s = false := by rw [HZ.out, HF.out, HD.out, decide_eq_false hle]; rfl
        have HZ2 := Lib.hid hz; clear hz
        go_wp2
        go_ret
        have hz := HZ2.out
        exact ⟨by rw [hz]; rfl, HE4.out.trans HC5.out⟩
    · go_wp2
      go_ret
      have hz : spansS l i k s = true := by rw [HZ.out, HF.out, List.drop_of_length_le (by omega)]; rfl
      exact ⟨by rw [hz]; rfl, HE.out⟩
end Go.Proofs.YtepaabbfindaeaaGreatDoor
namespace Go.Proofs.YtepaabbfindaeaaGreatDoor
open Go.RowKit

def nats (xs : List Nat) : List Value := xs.map fun (n : Nat) => Value.int .i64 (n : Int)
/-- Block g is these numbers, and may be written. -/
def NBlk (w : World) (g : Nat) (xs : List Nat) : Prop := w.heap[g]? = some (.cells (nats xs).toArray 3 (0, 0))
theorem NBlk.lt {w : World} {g : Nat} {xs : List Nat} (h : NBlk w g xs) : g < w.heap.size := by
  rcases Nat.lt_or_ge g w.heap.size with hl | hl
  · exact hl
  · unfold NBlk at h; rw [Array.getElem?_eq_none hl] at h; cases h
theorem NBlk.ext {w w' : World} {g : Nat} {xs : List Nat} (h : NBlk w g xs) (hE : Ext w w') : NBlk w' g xs := hE.heap h
theorem NBlk.cell {w : World} {g : Nat} {xs : List Nat} (h : NBlk w g xs) {i : Nat} (hi : i < xs.length) : w.cell? ⟨g, i, none⟩ = some (.int .i64 (xs[i] : Int)) := by
  unfold NBlk at h
  rw [cell_of_row w g i _ 3 (0, 0) h]
  simp [nats, hi]
theorem NBlk.frozen {w : World} {g : Nat} {xs : List Nat} (h : NBlk w g xs) (i : Nat) : w.frozen? ⟨g, i, none⟩ = false := by
  unfold NBlk at h
  simp [World.frozen?, h]
theorem NBlk.put {w : World} {g : Nat} {xs : List Nat} (h : NBlk w g xs) (i v : Nat) : NBlk (w.setCell ⟨g, i, none⟩ (.int .i64 (v : Int))) g (xs.set i v) := by
  unfold NBlk at h ⊢
  rw [heap_setCell_same w g i _ 3 _ h]
  simp [nats, List.map_set]
theorem NBlk.far {w : World} {g : Nat} {xs : List Nat} (h : NBlk w g xs) {p : Addr} (hp : g ≠ p.block) (u : Value) : NBlk (w.setCell p u) g xs := (heap_setCell_other w p g u hp).trans h
theorem NBlk.alloc {w : World} {g : Nat} {xs : List Nat} (h : NBlk w g xs) (o : Obj) : NBlk (w.alloc o) g xs := h.ext ((Ext.refl w).alloc o)
theorem made_nats (n : Nat) : madeCells #[Value.int .i64 0] n = (nats (List.replicate n 0)).toArray := by
  apply Array.ext
  · simp [madeCells, nats]
  · intro i h1 h2
    simp [madeCells, nats, Nat.mod_one]
theorem NBlk.made (w : World) (n : Nat) : NBlk (w.alloc (.cells (madeCells #[Value.int .i64 0] n) 3)) w.heap.size (List.replicate n 0) := by
  unfold NBlk
  rw [made_nats]
  exact heap_alloc_new w _

abbrev St := List Nat × List Nat
def stp (l : List (Int × Int)) (s : Int) (i k : Nat) (st : St) : St :=
  if st.1.getD k 0 + 1 ≤ st.1.getD i 0 ∧ spansS l i k s = true then (st.1.set i (st.1.getD k 0 + 1), st.2.set i k) else st
def inn (l : List (Int × Int)) (s : Int) (i : Nat) : Nat → St → St
  | 0, st => st
  | k + 1, st => if i < k + 1 then inn l s i k (stp l s i (k + 1) st) else st
def outer (l : List (Int × Int)) (s : Int) : Nat → St → St
  | 0, st => st
  | j + 1, st => outer l s j (inn l s j (l.length - 1) (st.1.set j l.length, st.2))
def chain (N : List Nat) (last : Nat) : Nat → Nat → List Nat
  | 0, _ => []
  | f + 1, i => if i < last then N.getD i 0 :: chain N last f (N.getD i 0) else []
def dpF (l : List (Int × Int)) (s : Int) : St := outer l s (l.length - 1) (List.replicate l.length 0, List.replicate l.length 0)
def thinL (l : List (Int × Int)) (s : Int) : List Nat := 0 :: chain (dpF l s).2 (l.length - 1) l.length 0

theorem inn_stop {l : List (Int × Int)} {s : Int} {i k : Nat} {st : St} (h : k ≤ i) : inn l s i k st = st := by
  cases k with
  | zero => rfl
  | succ k => unfold inn; rw [if_neg (by omega)]
theorem inn_go {l : List (Int × Int)} {s : Int} {i k : Nat} {st : St} (h : i < k) : inn l s i k st = inn l s i (k - 1) (stp l s i k st) := by
  obtain ⟨m, rfl⟩ : ∃ m, k = m + 1 := ⟨k - 1, by omega⟩
  rw [show inn l s i (m + 1) st = if i < m + 1 then inn l s i m (stp l s i (m + 1) st) else st from rfl, if_pos h]; rfl
theorem int_eq {k : IntKind} {a b : Int} (h : a = b) : Value.int k a = Value.int k b := by rw [h]
theorem spans_b (b : Bool) (l : List (Int × Int)) (A : Option Addr) (c : Nat) (i k : Nat) (s : Int) (w : World) (h : RowsS w A l) (hT : TabOk l) (hik : i < k) (hk : k < l.length) (hc : l.length ≤ c) (hc2 : c ≤ 9223372036854775807) (hs0 : 0 ≤ s) (hs1 : s ≤ 1000000) (hb : spansS l i k s = b) :
    Calls Tryz.prog 36 #[.slice A l.length c, .int .i64 i, .int .i64 k, .int .i64 s] w fun e w' => e = .returned (.bool b) ∧ Ext w w' := by
  have hc := spans_c l A c i k s w h hT hik hk hc hc2 hs0 hs1
  rw [hb] at hc
  exact hc
theorem mem_set_le {xs : List Nat} {i v B : Nat} (h : ∀ m ∈ xs, m ≤ B) (hv : v ≤ B) : ∀ m ∈ xs.set i v, m ≤ B := by
  intro m hm
  rcases List.mem_or_eq_of_mem_set hm with h1 | h1
  · exact h m h1
  · omega
theorem own_base {w : World} {base : Nat} {e : TypeId} {size n : Nat} {v : Value} {xs : List Value} (h : w.ownsRow base e size v n xs) : ∀ k, v.ownBlock = some k → base ≤ k := by
  intro k hk
  rcases h.2 with ⟨rfl, _⟩ | ⟨g, cap, cur, rfl, hb, _⟩
  · simp [Value.ownBlock] at hk
  · have : g = k := by simpa [Value.ownBlock] using hk
    omega
theorem own_one (w : World) (base : Nat) (x : Value) (hb : base ≤ w.heap.size) : (w.alloc (.cells #[x] 3)).ownsRow base 3 1 (.slice (some ⟨w.heap.size, 0, none⟩) 1 1) 1 [x] :=
  ⟨rfl, .inr ⟨w.heap.size, 1, #[x], rfl, hb, heap_alloc_new w _, Nat.le_refl _, by decide, rfl, rfl⟩⟩
theorem chain_go {N : List Nat} {last f i : Nat} (h : i < last) : chain N last (f + 1) i = N.getD i 0 :: chain N last f (N.getD i 0) := by
  rw [show chain N last (f + 1) i = if i < last then N.getD i 0 :: chain N last f (N.getD i 0) else [] from rfl, if_pos h]
theorem chain_stop {N : List Nat} {last f i : Nat} (h : last ≤ i) : chain N last f i = [] := by
  cases f with
  | zero => rfl
  | succ f => rw [show chain N last (f + 1) i = if i < last then N.getD i 0 :: chain N last f (N.getD i 0) else [] from rfl, if_neg (by omega)]
theorem nats_snoc (xs : List Nat) (n : Nat) : nats (xs ++ [n]) = nats xs ++ [.int .i64 (n : Int)] := by simp [nats]
theorem int_info : (Tryz.prog.info? 3).map (fun i => (i.zero, i.size, i.bytes)) = some (some (.int .i64 0), 1, 8) := by kernel_rfl

set_option maxRecDepth 100000 in
set_option maxHeartbeats 4000000 in
theorem Thinned_ok (l : List (Int × Int)) (A : Option Addr) (c : Nat) (s : Int) (w : World) (h : RowsS w A l) (h0 : (ckT l).2 = 0) (hc : l.length ≤ c) (hc2 : c ≤ 9223372036854775807) (h1 : 0 ≤ s) (h2 : s ≤ 1000000) (hdp : ∀ i, i < l.length - 1 → i < (dpF l s).2.getD i 0 ∧ (dpF l s).2.getD i 0 ≤ l.length - 1) :
    Calls Tryz.prog 15 #[.slice A l.length c, .int .i64 s] w fun e w' => ∃ v, e = .returned (.tuple #[v, .int .i64 0]) ∧ w'.ownsRow w.heap.size 3 1 v (thinL l s).length (nats (thinL l s)) ∧ Ext w w' := by
  have HH := Lib.hid h; clear h
  have hT := (ckT_ok h0).1
  have hpos := hT.pos
  have hfew := hT.few
  have HT := Lib.hid hT; clear hT
  have HDP := Lib.hid hdp; clear hdp
  have HR := Lib.hid h0; clear h0
  have HCC := Lib.hid (And.intro hc hc2); clear hc hc2
  obtain ⟨i0, hi0, hz0, hz1, hz2⟩ := info_parts int_info
  have hmk := fun W : World => run_make (P := Tryz.prog) W 50 3 i0 (.int .i64 0) Tryz.underlying50 hi0 hz0 .i64 .i64 (l.length : Int) (l.length : Int) (by omega) (by omega) (by rw [hz2]; omega) (by omega)
  simp only [Int.toNat_natCast, hz1, Value.cells] at hmk
  go_enter Tryz.func15, Tryz.ntmps15
  go_wp2_with (first | (go_at_call 35; refine (checkTable_ok_c l A c _ HR.out HH.out).mono ?_; go_must (rintro e W ⟨rfl, hE1⟩; have HE := Lib.hid hE1; clear hE1)) | (go_at_call 32; refine (within_t _ _ _ _ ⟨h1, h2⟩).mono ?_; rintro e w9 ⟨rfl, rfl⟩))
  refine wp_region_Tb (R := Ext) (fun w' => Ext (W) w') [(0, 0), (1, 0), (3, 0), (4, 0)] 2 [(6, 0), (5, 1), (7, 0)] 5 [(2, 1), (6, 0), (7, 0)] (by kernel_rfl) (by kernel_rfl) (fun _ _ h k => k.trans h) ((Ext.refl _).drew) ?_
  iterate 4
    first
      | (apply wpT_no
         focus (simp only [List.getElem?_toArray, List.getElem?_cons_zero, List.getElem?_cons_succ]; rfl)
         focus rfl
         focus (simp only [Act.put, List.setIfInBounds_toArray, List.set_cons_zero, List.set_cons_succ]; rfl))
      | (apply wpT_ex
         focus (simp only [List.getElem?_toArray, List.getElem?_cons_zero, List.getElem?_cons_succ]; rfl)
         focus rfl
         focus
           intro w1 hC Ψ hΨ
           skip
           go_simp; (try (go_bits; (try go_simp)))
           first
             | exact hΨ _ (Ext.refl _)
         focus (simp only [Act.put, List.setIfInBounds_toArray, List.set_cons_zero, List.set_cons_succ]; rfl))
  refine wpT_nil ?_
  refine ⟨?_, ?_⟩
  apply wpT_fr (fun v w => ∃ g, v = .slice (some ⟨g, 0, none⟩) l.length l.length ∧ W.heap.size ≤ g ∧ NBlk w g (List.replicate l.length 0))
  focus (simp only [List.getElem?_toArray, List.getElem?_cons_zero, List.getElem?_cons_succ]; rfl)
  focus rfl
  focus
    rintro v wa wb hab ⟨g, rfl, hg, hb⟩
    exact ⟨g, rfl, hg, hb.ext hab⟩
  focus
    intro w1 hC Ψ hΨ
    go_simp
    exact hΨ _ _ ((Ext.refl _).alloc _) ⟨_, rfl, hC.size, NBlk.made _ _⟩
  intro v0 a0' ha
  simp only [Act.put, List.setIfInBounds_toArray, List.set_cons_zero, List.set_cons_succ] at ha
  subst ha
  iterate 1
    first
      | (apply wpT_no
         focus (simp only [List.getElem?_toArray, List.getElem?_cons_zero, List.getElem?_cons_succ]; rfl)
         focus rfl
         focus (simp only [Act.put, List.setIfInBounds_toArray, List.set_cons_zero, List.set_cons_succ]; rfl))
      | (apply wpT_ex
         focus (simp only [List.getElem?_toArray, List.getElem?_cons_zero, List.getElem?_cons_succ]; rfl)
         focus rfl
         focus
           intro w1 hC Ψ hΨ
           skip
           go_simp; (try (go_bits; (try go_simp)))
           first
             | exact hΨ _ (Ext.refl _)
         focus (simp only [Act.put, List.setIfInBounds_toArray, List.set_cons_zero, List.set_cons_succ]; rfl))
  apply wpT_fr (fun v w => ∃ g, v = .slice (some ⟨g, 0, none⟩) l.length l.length ∧ W.heap.size ≤ g ∧ NBlk w g (List.replicate l.length 0) ∧ v ≠ v0)
  focus (simp only [List.getElem?_toArray, List.getElem?_cons_zero, List.getElem?_cons_succ]; rfl)
  focus rfl
  focus
    rintro v wa wb hab ⟨g, rfl, hg, hb, hn⟩
    exact ⟨g, rfl, hg, hb.ext hab, hn⟩
  focus
    intro w1 hC Ψ hΨ
    obtain ⟨hC, g0, rfl, hg0, hb0⟩ := hC
    have HB0 := Lib.hid hb0; clear hb0
    go_simp
    refine hΨ _ _ ((Ext.refl _).alloc _) ⟨_, rfl, hC.size, NBlk.made _ _, ?_⟩
    intro e
    have := HB0.out.lt
    simp at e <;> omega
  intro v1 a1' ha
  simp only [Act.put, List.setIfInBounds_toArray, List.set_cons_zero, List.set_cons_succ] at ha
  subst ha
  iterate 1
    first
      | (apply wpT_no
         focus (simp only [List.getElem?_toArray, List.getElem?_cons_zero, List.getElem?_cons_succ]; rfl)
         focus rfl
         focus (simp only [Act.put, List.setIfInBounds_toArray, List.set_cons_zero, List.set_cons_succ]; rfl))
      | (apply wpT_ex
         focus (simp only [List.getElem?_toArray, List.getElem?_cons_zero, List.getElem?_cons_succ]; rfl)
         focus rfl
         focus
           intro w1 hC Ψ hΨ
           skip
           go_simp; (try (go_bits; (try go_simp)))
           first
             | exact hΨ _ (Ext.refl _)
         focus (simp only [Act.put, List.setIfInBounds_toArray, List.set_cons_zero, List.set_cons_succ]; rfl))
  refine wpT_nil ?_
  intro w1 hC
  obtain ⟨⟨hC, gM, rfl, hgM, hM⟩, gN, rfl, hgN, hN, hne⟩ := hC
  rotate_left
  apply wpT_fr (fun v w => ∃ g, v = .slice (some ⟨g, 0, none⟩) l.length l.length ∧ W.heap.size ≤ g ∧ NBlk w g (List.replicate l.length 0))
  focus (simp only [List.getElem?_toArray, List.getElem?_cons_zero, List.getElem?_cons_succ]; rfl)
  focus rfl
  focus
    rintro v wa wb hab ⟨g, rfl, hg, hb⟩
    exact ⟨g, rfl, hg, hb.ext hab⟩
  focus
    intro w1 hC Ψ hΨ
    go_simp
    exact hΨ _ _ ((Ext.refl _).alloc _) ⟨_, rfl, hC.size, NBlk.made _ _⟩
  intro v0 a0' ha
  simp only [Act.put, List.setIfInBounds_toArray, List.set_cons_zero, List.set_cons_succ] at ha
  subst ha
  apply wpT_fr (fun v w => ∃ g, v = .slice (some ⟨g, 0, none⟩) l.length l.length ∧ W.heap.size ≤ g ∧ NBlk w g (List.replicate l.length 0) ∧ v ≠ v0)
  focus (simp only [List.getElem?_toArray, List.getElem?_cons_zero, List.getElem?_cons_succ]; rfl)
  focus rfl
  focus
    rintro v wa wb hab ⟨g, rfl, hg, hb, hn⟩
    exact ⟨g, rfl, hg, hb.ext hab, hn⟩
  focus
    intro w1 hC Ψ hΨ
    obtain ⟨hC, g0, rfl, hg0, hb0⟩ := hC
    have HB0 := Lib.hid hb0; clear hb0
    go_simp
    refine hΨ _ _ ((Ext.refl _).alloc _) ⟨_, rfl, hC.size, NBlk.made _ _, ?_⟩
    intro e
    have := HB0.out.lt
    simp at e <;> omega
  intro v1 a1' ha
  simp only [Act.put, List.setIfInBounds_toArray, List.set_cons_zero, List.set_cons_succ] at ha
  subst ha
  iterate 2
    first
      | (apply wpT_no
         focus (simp only [List.getElem?_toArray, List.getElem?_cons_zero, List.getElem?_cons_succ]; rfl)
         focus rfl
         focus (simp only [Act.put, List.setIfInBounds_toArray, List.set_cons_zero, List.set_cons_succ]; rfl))
      | (apply wpT_ex
         focus (simp only [List.getElem?_toArray, List.getElem?_cons_zero, List.getElem?_cons_succ]; rfl)
         focus rfl
         focus
           intro w1 hC Ψ hΨ
           skip
           go_simp; (try (go_bits; (try go_simp)))
           first
             | exact hΨ _ (Ext.refl _)
         focus (simp only [Act.put, List.setIfInBounds_toArray, List.set_cons_zero, List.set_cons_succ]; rfl))
  refine wpT_nil ?_
  intro w1 hC
  obtain ⟨⟨hC, gN, rfl, hgN, hN⟩, gM, rfl, hgM, hM, hne⟩ := hC
  all_goals
    have hE1 := HE.out.trans hC
    have HE1 := Lib.hid hE1; clear hE1 hC
    have hwM : w.heap.size ≤ gM := Nat.le_trans HE.out.size hgM
    have hwN : w.heap.size ≤ gN := Nat.le_trans HE.out.size hgN
    have hMN : gM ≠ gN := by intro e; subst e; exact hne rfl
    clear hne hgM hgN
    have HM := Lib.hid hM; clear hM
    have HN := Lib.hid hN; clear hN
    go_wp2
    go_loopw [11, 12] (fun i _ wr => ∃ (j : Nat) (st : St), j ≤ l.length - 1 ∧ i = .int .i64 ((j : Int) - 1) ∧ Ext w wr ∧ NBlk wr gM st.1 ∧ NBlk wr gN st.2 ∧ st.1.length = l.length ∧ st.2.length = l.length ∧ (∀ m ∈ st.1, m ≤ 20) ∧ outer l s j st = dpF l s) (fun i _ _ => (intOf i + 1).toNat)
    case atStart => exact ⟨l.length - 1, (List.replicate l.length 0, List.replicate l.length 0), Nat.le_refl _, int_eq (by omega), HE1.out, HM.out, HN.out, by simp, by simp, by simp, rfl⟩
    case round =>
      obtain ⟨j, st, hj, rfl, hE, hM, hN, hlM, hlN, hm, hf⟩ := hrel
      have HE2 := Lib.hid hE; clear hE
      have HF := Lib.hid hf; clear hf
      have HL := Lib.hid (And.intro hlM hlN)
      have HM2 := Lib.hid hM; clear hM
      have HN2 := Lib.hid hN; clear hN
      have Hm := Lib.hid hm; clear hm
      cases j with
      | zero =>
        rw [show ((0 : Nat) : Int) - 1 = -1 from rfl]
        have hNf : st.2 = (dpF l s).2 := by have h := HF.out; rw [show outer l s 0 st = st from rfl] at h; rw [h]
        rw [hNf] at HN2
        have hlN' : (dpF l s).2.length = l.length := by rw [← hNf]; exact hlN
        clear hNf hlM hlN HM2
        generalize hNN : (dpF l s).2 = N at *
        have HNN := Lib.hid hNN; clear hNN
        have HLN := Lib.hid hlN'; clear hlN'
        have HB := Lib.hid HE2.out.size
        go_wp2
        have ho := own_one wr w.heap.size (.int .i64 0) HB.out
        have hE3 := HE2.out.alloc (.cells #[.int .i64 0] 3)
        have hN3 := HN2.out.alloc (.cells #[.int .i64 0] 3)
        have hnb : (Value.slice (some ⟨wr.heap.size, 0, none⟩) 1 1).ownBlock ≠ some gN := by have := HN2.out.lt; simp [Value.ownBlock]; omega
        generalize wr.alloc (.cells #[.int .i64 0] 3) = w2 at *
        generalize Value.slice (some ⟨wr.heap.size, 0, none⟩) 1 1 = o2 at *
        have HO3 := Lib.hid ho; clear ho
        have HE3 := Lib.hid hE3; clear hE3
        have HN3 := Lib.hid hN3; clear hN3
        have HNB3 := Lib.hid hnb; clear hnb
        have hth : thinL l s = 0 :: chain N (l.length - 1) l.length 0 := by simp only [thinL, HNN.out]
        have HTH := Lib.hid hth; clear hth
        go_loopw [13, 14] (fun o i w4 => ∃ (m f : Nat) (xs : List Nat), i = .int .i64 (m : Int) ∧ m ≤ l.length - 1 ∧ Ext w w4 ∧ NBlk w4 gN N ∧ w4.ownsRow w.heap.size 3 1 o xs.length (nats xs) ∧ o.ownBlock ≠ some gN ∧ thinL l s = xs ++ chain N (l.length - 1) f m ∧ l.length - 1 - m < f ∧ xs.length ≤ m + 1) (fun _ i _ => l.length - (intOf i).toNat)
        case atStart => exact ⟨0, l.length, [0], rfl, by omega, HE3.out, HN3.out, HO3.out, HNB3.out, HTH.out, by omega, by simp⟩
        case round =>
          obtain ⟨m, f, xs, rfl, hm, hE, hN, hO, hnb, hth, hf, hxm⟩ := hrel
          have HTH := Lib.hid hth; clear hth
          have HE4 := Lib.hid hE; clear hE
          have HN4 := Lib.hid hN; clear hN
          have HO4 := Lib.hid hO; clear hO
          have HNB4 := Lib.hid hnb; clear hnb
          by_cases hlt : m < l.length - 1
          · obtain ⟨f, rfl⟩ : ∃ f', f = f' + 1 := ⟨f - 1, by omega⟩
            have hd := HDP.out m hlt
            have hmN : m < N.length := by rw [HLN.out]; omega
            have k1 : wr.cell? ⟨gN, m, none⟩ = some (.int .i64 ((N.getD m 0 : Nat) : Int)) := by have := HN4.out.cell hmN; rw [this]; simp [hmN]
            have hch := HTH.out
            rw [chain_go hlt] at hch
            have HCH := Lib.hid hch; clear hch hmN
            obtain ⟨d1, d2⟩ := hd
            generalize N.getD m 0 = m2 at *
            have hml : (m : Int) < (l.length : Int) - 1 := by omega
            have hB4 := HE4.out.size
            go_wp2_with (at_builtin; refine wpList_append_own_at _ rfl (.tmp 89) (.tmp 91) 50 rfl w.heap.size 3 i0 (.int .i64 0) 1 8 Tryz.underlying50 hi0 hz0 hz1 hz2 rfl (by decide) _ _ _ rfl (HO4.out.alloc _) ⟨wr.heap.size, 0, none⟩ 1 1 [.int .i64 (m2 : Int)] rfl rfl (cell_one_new _ _ _) (by simp [Value.oneCell']) (by simp only [maxLen]; omega) (by omega) (by simp; omega) ?_; intro v1 w5 hown1 hgrow1 hnil1 hat1)
            have hb5 : ∀ k, u13.ownBlock = some k → w.heap.size ≤ k := own_base HO4.out
            have hE5 : Ext w w5 := Below.grown (HE4.out.alloc _) hgrow1 (by simp; omega) hb5
            have hN5 : NBlk w5 gN N := (hgrow1.block gN (by have := HN4.out.lt; simp; omega) (fun e => HNB4.out e.symm)).trans (HN4.out.alloc _)
            have hnb5 : v1.ownBlock ≠ some gN := by
              rcases hat1 with e | e
              · rw [e]; exact HNB4.out
              · rw [e]; have := HN4.out.lt; simp; omega
            have HE5 := Lib.hid hE5; clear hE5
            have HN5 := Lib.hid hN5; clear hN5
            have HNB5 := Lib.hid hnb5; clear hnb5
            have HO5 := Lib.hid hown1; clear hown1 hgrow1 hnil1 hat1 hb5
            clear k1
            go_roundw
            case rel => exact ⟨m2, f, xs ++ [m2], rfl, d2, HE5.out, HN5.out, by simpa [nats_snoc] using HO5.out, HNB5.out, by rw [HCH.out]; simp, by omega, by simp; omega⟩
            case measure => simp [intOf] <;> omega
          · have hth2 := HTH.out
            rw [chain_stop (by omega), List.append_nil] at hth2
            have HTH2 := Lib.hid hth2; clear hth2
            go_wp2
            go_ret2
            exact ⟨_, rfl, by rw [HTH2.out]; exact HO4.out, HE4.out⟩
      | succ j =>
        rw [show ((j + 1 : Nat) : Int) - 1 = (j : Int) by omega]
        have hjl : j < st.1.length := by omega
        have k1 : wr.cell? ⟨gM, j, none⟩ = some (.int .i64 ((st.1.getD j 0 : Nat) : Int)) := by have := HM2.out.cell hjl; rw [this]; simp [hjl]
        have k2 := HM2.out.frozen j
        clear hlM hlN
        obtain ⟨wo, hwo⟩ : ∃ wo, wo = wr := ⟨_, rfl⟩
        subst hwo
        go_wp2
        have hM3 := HM2.out.put j l.length
        have hN3 := HN2.out.far (p := ⟨gM, j, none⟩) (by simpa using hMN.symm) (.int .i64 (l.length : Int))
        have hE3 := HE2.out.set (p := ⟨gM, j, none⟩) hwM (.int .i64 (l.length : Int))
        generalize wo.setCell ⟨gM, j, none⟩ (.int .i64 (l.length : Int)) = w2 at *
        have HM3 := Lib.hid hM3; clear hM3
        have HN3 := Lib.hid hN3; clear hN3
        have HE3 := Lib.hid hE3; clear hE3
        clear k1 k2
        go_loopw [12] (fun kk w4 => ∃ (k : Nat) (st2 : St), k ≤ l.length - 1 ∧ kk = .int .i64 (k : Int) ∧ Ext w w4 ∧ NBlk w4 gM st2.1 ∧ NBlk w4 gN st2.2 ∧ st2.1.length = l.length ∧ st2.2.length = l.length ∧ (∀ m ∈ st2.1, m ≤ 20) ∧ inn l s j k st2 = inn l s j (l.length - 1) (st.1.set j l.length, st.2)) (fun kk _ => (intOf kk).toNat)
        case atStart => exact ⟨l.length - 1, (st.1.set j l.length, st.2), Nat.le_refl _, int_eq (by omega), HE3.out, HM3.out, HN3.out, by simp [HL.out.1], by simp [HL.out.2], mem_set_le Hm.out hfew, rfl⟩
        case round =>
          obtain ⟨k, st2, hk, rfl, hE4, hM4, hN4, hlM, hlN, hm4, hf4⟩ := hrel
          have HF4 := Lib.hid hf4; clear hf4
          have HE4 := Lib.hid hE4; clear hE4
          obtain ⟨w4, hw4⟩ : ∃ w4, w4 = wr := ⟨_, rfl⟩
          subst hw4
          have HL4 := Lib.hid (And.intro hlM hlN)
          have HM4 := Lib.hid hM4; clear hM4
          have HN4 := Lib.hid hN4; clear hN4
          have Hm4 := Lib.hid hm4; clear hm4
          by_cases hjk : j < k
          · have hgo := HF4.out
            rw [inn_go hjk] at hgo
            have HGO := Lib.hid hgo; clear hgo
            have hkl : k < st2.1.length := by omega
            have hjl2 : j < st2.1.length := by omega
            have hjn : j < st2.2.length := by omega
            have e1 : w4.cell? ⟨gM, k, none⟩ = some (.int .i64 ((st2.1.getD k 0 : Nat) : Int)) := by have := HM4.out.cell hkl; rw [this]; simp [hkl]
            have e2 : w4.cell? ⟨gM, j, none⟩ = some (.int .i64 ((st2.1.getD j 0 : Nat) : Int)) := by have := HM4.out.cell hjl2; rw [this]; simp [hjl2]
            have e3 : w4.cell? ⟨gN, j, none⟩ = some (.int .i64 ((st2.2.getD j 0 : Nat) : Int)) := by have := HN4.out.cell hjn; rw [this]; simp [hjn]
            have f2 := HM4.out.frozen j
            have f3 := HN4.out.frozen j
            have hmk2 : st2.1.getD k 0 ≤ 20 := Hm4.out _ (by simp [hkl])
            have hstp : stp l s j k st2 = if st2.1.getD k 0 + 1 ≤ st2.1.getD j 0 ∧ spansS l j k s = true then (st2.1.set j (st2.1.getD k 0 + 1), st2.2.set j k) else st2 := rfl
            have hmj : st2.1.getD j 0 ≤ 20 := Hm4.out _ (by simp [hjl2])
            have hjk' : (j : Int) < (k : Int) := by omega
            obtain ⟨sp, hsp⟩ : ∃ b, spansS l j k s = b := ⟨_, rfl⟩
            rw [hsp] at hstp
            have HSP := Lib.hid hsp; clear hsp
            have HSTP := Lib.hid hstp; clear hstp
            have HDG := Lib.hid (show st2.1.getD k 0 = st2.1.getD k 0 from rfl)
            have hw4M : gM < w4.heap.size := HM4.out.lt
            have hw4N : gN < w4.heap.size := HN4.out.lt
            generalize st2.1.getD k 0 = a at *
            generalize st2.1.getD j 0 = b at *
            clear hlM hlN hjl hkl hjl2 hjn HDG
            by_cases hg : a + 1 ≤ b
            · have hgi : (a : Int) + 1 ≤ (b : Int) := by omega
              go_wp2
              refine wp_region_T (R := Ext) (fun w' => Ext (w4) w') [(0, 0), (1, 0), (2, 0), (3, 0), (4, 0), (5, 0), (6, 0), (7, 0), (8, 0), (9, 0), (10, 0), (11, 0), (12, 0), (13, 0), (14, 0), (15, 0), (16, 0)] (by kernel_rfl) (by kernel_rfl) (fun _ _ h k => k.trans h) ((Ext.refl _).drew) ?_
              iterate 17
                first
                  | (apply wpT_no
                     focus (simp only [List.getElem?_toArray, List.getElem?_cons_zero, List.getElem?_cons_succ]; rfl)
                     focus rfl
                     focus (simp only [Act.put, List.setIfInBounds_toArray, List.set_cons_zero, List.set_cons_succ]; rfl))
                  | (apply wpT_ex
                     focus (simp only [List.getElem?_toArray, List.getElem?_cons_zero, List.getElem?_cons_succ]; rfl)
                     focus rfl
                     focus
                       intro w1 hC Ψ hΨ
                       have d1 := hC.cell e1
                       have d2 := hC.cell e2
                       have d3 : (k : Int) < (l.length : Int) := by omega
                       have d4 : (j : Int) < (l.length : Int) := by omega
                       go_simp; (try (go_bits; (try go_simp)))
                       first
                         | exact hΨ _ (Ext.refl _)
                         | (go_at_call 36; refine (spans_b sp l _ _ _ _ _ _ (HH.out.ext (HE4.out.trans hC)) HT.out (by omega) (by omega) HCC.out.1 HCC.out.2 h1 h2 HSP.out).mono ?_; rintro e w2 ⟨rfl, hE2⟩; exact ⟨_, rfl, hΨ _ hE2⟩)
                     focus (simp only [Act.put, List.setIfInBounds_toArray, List.set_cons_zero, List.set_cons_succ]; rfl))
              refine wpT_nil ?_
              intro w5 hC
              have HC5 := Lib.hid hC; clear hC
              have e1' := HC5.out.cell e1
              have e2' := HC5.out.cell e2
              have e3' := HC5.out.cell e3
              have f2' := HC5.out.fz hw4M f2
              have f3' := HC5.out.fz hw4N f3
              have HE5 := Lib.hid (HE4.out.trans HC5.out)
              have HM5 := Lib.hid (HM4.out.ext HC5.out)
              have HN5 := Lib.hid (HN4.out.ext HC5.out)
              clear e1 e2 e3 f2 f3
              cases sp with
              | true =>
                have hq : stp l s j k st2 = (st2.1.set j (a + 1), st2.2.set j k) := by rw [HSTP.out, if_pos ⟨hg, rfl⟩]
                have HQ := Lib.hid hq; clear hq
                have hMN' : gN ≠ gM := hMN.symm
                go_wp2
                have hM6 := (HM5.out.put j (a + 1)).far (p := ⟨gN, j, none⟩) (by simpa using hMN) (.int .i64 (k : Int))
                have hN6 := (HN5.out.far (p := ⟨gM, j, none⟩) (by simpa using hMN') (.int .i64 ((a + 1 : Nat) : Int))).put j k
                have hE6 := (HE5.out.set (p := ⟨gM, j, none⟩) hwM (.int .i64 ((a + 1 : Nat) : Int))).set (p := ⟨gN, j, none⟩) hwN (.int .i64 (k : Int))
                have HM6 := Lib.hid hM6; clear hM6
                have HN6 := Lib.hid hN6; clear hN6
                have HE6 := Lib.hid hE6; clear hE6
                go_roundw
                case rel => exact ⟨k - 1, (st2.1.set j (a + 1), st2.2.set j k), by omega, int_eq (by omega), HE6.out, HM6.out, HN6.out, by simpa using HL4.out.1, by simpa using HL4.out.2, mem_set_le Hm4.out (by omega), by rw [← HQ.out]; exact HGO.out⟩
                case measure => simp [intOf] <;> omega
              | false =>
                have hq : stp l s j k st2 = st2 := by rw [HSTP.out, if_neg (by simp)]
                have HQ := Lib.hid hq; clear hq
                go_wp2
                go_roundw
                case rel => exact ⟨k - 1, st2, by omega, int_eq (by omega), HE5.out, HM5.out, HN5.out, HL4.out.1, HL4.out.2, Hm4.out, by have := HGO.out; rw [HQ.out] at this; exact this⟩
                case measure => simp [intOf] <;> omega
            · have hgi : ¬ ((a : Int) + 1 ≤ (b : Int)) := by omega
              have hq : stp l s j k st2 = st2 := by rw [HSTP.out, if_neg (fun h => hg h.1)]
              have HQ := Lib.hid hq; clear hq
              go_wp2
              refine wp_region_T (R := Ext) (fun w' => Ext (w4) w') [(0, 0), (1, 0), (2, 0), (3, 0), (4, 0), (5, 0), (6, 0), (7, 0), (8, 0), (9, 0), (10, 0), (11, 0), (12, 0), (13, 0), (14, 0), (15, 0), (16, 0)] (by kernel_rfl) (by kernel_rfl) (fun _ _ h k => k.trans h) ((Ext.refl _).drew) ?_
              iterate 17
                first
                  | (apply wpT_no
                     focus (simp only [List.getElem?_toArray, List.getElem?_cons_zero, List.getElem?_cons_succ]; rfl)
                     focus rfl
                     focus (simp only [Act.put, List.setIfInBounds_toArray, List.set_cons_zero, List.set_cons_succ]; rfl))
                  | (apply wpT_ex
                     focus (simp only [List.getElem?_toArray, List.getElem?_cons_zero, List.getElem?_cons_succ]; rfl)
                     focus rfl
                     focus
                       intro w1 hC Ψ hΨ
                       have d1 := hC.cell e1
                       have d2 := hC.cell e2
                       have d3 : (k : Int) < (l.length : Int) := by omega
                       have d4 : (j : Int) < (l.length : Int) := by omega
                       have d5 : ¬ ((a : Int) + 1 ≤ (b : Int)) := by omega
                       go_simp; (try (go_bits; (try go_simp)))
                       first
                         | exact hΨ _ (Ext.refl _)
                     focus (simp only [Act.put, List.setIfInBounds_toArray, List.set_cons_zero, List.set_cons_succ]; rfl))
              refine wpT_nil ?_
              intro w5 hC
              have HC5 := Lib.hid hC; clear hC
              have HE5 := Lib.hid (HE4.out.trans HC5.out)
              have HM5 := Lib.hid (HM4.out.ext HC5.out)
              have HN5 := Lib.hid (HN4.out.ext HC5.out)
              clear e1 e2 e3 f2 f3
              go_wp2
              go_roundw
              case rel => exact ⟨k - 1, st2, by omega, int_eq (by omega), HE5.out, HM5.out, HN5.out, HL4.out.1, HL4.out.2, Hm4.out, by have := HGO.out; rw [HQ.out] at this; exact this⟩
              case measure => simp [intOf] <;> omega
          · have hjk' : ¬ ((j : Int) < (k : Int)) := by omega
            have hq := HF4.out
            rw [inn_stop (by omega)] at hq
            have HQ := Lib.hid hq; clear hq
            go_wp2
            go_roundw
            case rel => exact ⟨j, st2, by omega, rfl, HE4.out, HM4.out, HN4.out, HL4.out.1, HL4.out.2, Hm4.out, by rw [HQ.out]; exact HF.out⟩
            case measure => simp [intOf] <;> omega

set_option maxHeartbeats 1000000 in
theorem Thinned_err (l : List (Int × Int)) (A : Option Addr) (c : Nat) (s : Int) (w : World) (h : RowsS w A l) (h0 : (ckT l).2 ≠ 0) :
    Calls Tryz.prog 15 #[.slice A l.length c, .int .i64 s] w fun e w' => e = .returned (.tuple #[.slice none 0 0, .int .i64 (ckT l).2]) ∧ Ext w w' := by
  have HH := Lib.hid h; clear h
  have hb : ((ckT l).2 == 0) = false := by simpa using h0
  have hc := checkTable_c l A c w HH.out
  generalize (ckT l).2 = r at *
  have HC := Lib.hid hc; clear hc
  go_enter Tryz.func15, Tryz.ntmps15
  go_wp2_with (go_at_call 35; refine HC.out.mono ?_; go_must (rintro e W ⟨rfl, hE1⟩; have HE := Lib.hid hE1; clear hE1))
  go_ret2
  exact ⟨rfl, HE.out⟩
set_option maxHeartbeats 1000000 in
theorem Thinned_range (l : List (Int × Int)) (A : Option Addr) (c : Nat) (s : Int) (w : World) (h : RowsS w A l) (h0 : (ckT l).2 = 0) (h1 : ¬ (0 ≤ s ∧ s ≤ 1000000)) :
    Calls Tryz.prog 15 #[.slice A l.length c, .int .i64 s] w fun e w' => e = .returned (.tuple #[.slice none 0 0, .int .i64 2]) ∧ Ext w w' := by
  have HH := Lib.hid h; clear h
  have HD := Lib.hid h1; clear h1
  have HR := Lib.hid h0; clear h0
  go_enter Tryz.func15, Tryz.ntmps15
  go_wp2_with (first | (go_at_call 35; refine (checkTable_ok_c l A c _ HR.out HH.out).mono ?_; go_must (rintro e W ⟨rfl, hE1⟩; have HE := Lib.hid hE1; clear hE1)) | (go_at_call 32; refine (within_f _ _ _ _ HD.out).mono ?_; rintro e w9 ⟨rfl, rfl⟩))
  go_ret2
  exact ⟨rfl, HE.out⟩
end Go.Proofs.YtepaabbfindaeaaGreatDoor
namespace Go.Proofs.YtepaabbfindaeaaGreatDoor
open Go.RowKit

structure Arc where
  r : Int
  lo : Int
  hi : Int

def ArcsR (w : World) (b off : Nat) (l : List Arc) : Prop :=
  ∀ i x, l[i]? = some x → w.cell? ⟨b, off + i * 3, none⟩ = some (.int .i64 x.r) ∧ w.cell? ⟨b, off + i * 3 + 1, none⟩ = some (.int .i64 x.lo) ∧ w.cell? ⟨b, off + i * 3 + 2, none⟩ = some (.int .i64 x.hi)
def ArcsS (w : World) (A : Option Addr) (l : List Arc) : Prop := l = [] ∨ ∃ b off, A = some ⟨b, off, none⟩ ∧ b < w.heap.size ∧ ArcsR w b off l
theorem ArcsR.ext {w w' : World} {b off : Nat} {l : List Arc} (h : ArcsR w b off l) (hE : Ext w w') : ArcsR w' b off l :=
  fun i x hx => ⟨hE.cell (h i x hx).1, hE.cell (h i x hx).2.1, hE.cell (h i x hx).2.2⟩
theorem ArcsS.ext {w w' : World} {A : Option Addr} {l : List Arc} (h : ArcsS w A l) (hE : Ext w w') : ArcsS w' A l :=
  h.imp id fun ⟨b, off, h1, h2, h3⟩ => ⟨b, off, h1, Nat.lt_of_lt_of_le h2 hE.size, h3.ext hE⟩

theorem isTime_c (n : Int) (w : World) :
    Calls Tryz.prog 68 #[.int .i64 n] w fun e w' => e = .returned (.bool (decide (0 ≤ n) && decide (n ≤ 1000000000000))) ∧ w = w' := by
  go_enter Tryz.func68, Tryz.ntmps68
  go_wp2_with (go_at_call 32; refine (within_c _ _ _ _).mono ?_; rintro e w' ⟨rfl, rfl⟩)
  go_ret
  exact ⟨rfl, rfl⟩

/-- The error of a range whose ends must be from a to b. -/
def rngE (lo hi a b : Int) : Int := if ¬ (a ≤ lo ∧ lo ≤ b) then 2 else if ¬ (a ≤ hi ∧ hi ≤ b) then 2 else if hi < lo then 9 else 0


theorem isTime_b (n : Int) (p : Bool) (w : World) (h : (decide (0 ≤ n) && decide (n ≤ 1000000000000)) = p) :
    Calls Tryz.prog 68 #[.int .i64 n] w fun e w' => e = .returned (.bool p) ∧ w = w' := by
  have hc := isTime_c n w
  rw [h] at hc
  exact hc
set_option maxHeartbeats 1000000 in
theorem range_isTime_c (lo hi : Int) (w : World) :
    Calls Tryz.prog 69 #[.agg #[.int .i64 lo, .int .i64 hi], .func (.func 68) #[] #[]] w fun e w' => e = .returned (.int .i64 (rngE lo hi (0) 1000000000000)) ∧ Ext w w' := by
  obtain ⟨p, hp⟩ : ∃ p, (decide (0 ≤ lo) && decide (lo ≤ 1000000000000)) = p := ⟨_, rfl⟩
  obtain ⟨q, hq⟩ : ∃ q, (decide (0 ≤ hi) && decide (hi ≤ 1000000000000)) = q := ⟨_, rfl⟩
  have hz : rngE lo hi (0) 1000000000000 = if p = false then 2 else if q = false then 2 else if hi < lo then 9 else 0 := by
    simp only [rngE, ← hp, ← hq, Bool.and_eq_false_iff, decide_eq_false_iff_not]
    by_cases h1 : 0 ≤ lo <;> by_cases h2 : lo ≤ 1000000000000 <;> by_cases h3 : 0 ≤ hi <;> by_cases h4 : hi ≤ 1000000000000 <;> simp [h1, h2, h3, h4]
  have HP := Lib.hid hp; clear hp
  have HQ := Lib.hid hq; clear hq
  have HZ := Lib.hid hz; clear hz
  cases p with
  | false =>
    have hz : rngE lo hi (0) 1000000000000 = 2 := by rw [HZ.out]; simp
    have HZ2 := Lib.hid hz; clear hz
    go_enter Tryz.func69, Tryz.ntmps69
    go_wp2_with (first | (go_at_call 68; (with_reducible refine (isTime_b lo false _ HP.out).mono ?_); rintro e9 w9 ⟨rfl, rfl⟩) | (go_at_call 68; (with_reducible refine (isTime_b hi q _ HQ.out).mono ?_); rintro e9 w9 ⟨rfl, rfl⟩))
    go_ret
    exact ⟨by rw [HZ2.out]; rfl, (Ext.refl _).alloc _⟩
  | true =>
    cases q with
    | false =>
      have hz : rngE lo hi (0) 1000000000000 = 2 := by rw [HZ.out]; simp
      have HZ2 := Lib.hid hz; clear hz
      go_enter Tryz.func69, Tryz.ntmps69
      go_wp2_with (first | (go_at_call 68; (with_reducible refine (isTime_b lo true _ HP.out).mono ?_); rintro e9 w9 ⟨rfl, rfl⟩) | (go_at_call 68; (with_reducible refine (isTime_b hi false _ HQ.out).mono ?_); rintro e9 w9 ⟨rfl, rfl⟩))
      go_ret
      exact ⟨by rw [HZ2.out]; rfl, (Ext.refl _).alloc _⟩
    | true =>
      by_cases hl : hi < lo
      · have hz : rngE lo hi (0) 1000000000000 = 9 := by rw [HZ.out]; simp [hl]
        have HZ2 := Lib.hid hz; clear hz
        go_enter Tryz.func69, Tryz.ntmps69
        go_wp2_with (first | (go_at_call 68; (with_reducible refine (isTime_b lo true _ HP.out).mono ?_); rintro e9 w9 ⟨rfl, rfl⟩) | (go_at_call 68; (with_reducible refine (isTime_b hi true _ HQ.out).mono ?_); rintro e9 w9 ⟨rfl, rfl⟩))
        go_ret
        exact ⟨by rw [HZ2.out]; rfl, (Ext.refl _).alloc _⟩
      · have hz : rngE lo hi (0) 1000000000000 = 0 := by rw [HZ.out]; simp [hl]
        have HZ2 := Lib.hid hz; clear hz
        go_enter Tryz.func69, Tryz.ntmps69
        go_wp2_with (first | (go_at_call 68; (with_reducible refine (isTime_b lo true _ HP.out).mono ?_); rintro e9 w9 ⟨rfl, rfl⟩) | (go_at_call 68; (with_reducible refine (isTime_b hi true _ HQ.out).mono ?_); rintro e9 w9 ⟨rfl, rfl⟩))
        go_ret
        exact ⟨by rw [HZ2.out]; rfl, (Ext.refl _).alloc _⟩


def arcBad (x : Arc) : Int := firstE [rgd (decide (1 ≤ x.r) && decide (x.r ≤ 100000)), rngE x.lo x.hi 0 1000000000000]
def ckArcs : Nat → Option Int → List Arc → Int × Int
  | _, _, [] => (0, 0)
  | i, p, x :: xs => if arcBad x ≠ 0 then (i, arcBad x) else if ordBad p x.r = true then (i, 9) else ckArcs (i + 1) (some x.r) xs
def ckA (l : List Arc) : Int × Int := if l.length < 2 then (0, 10) else if 12 < l.length then (0, 8) else ckArcs 0 none l
def prevA (l : List Arc) : Nat → Option Int
  | 0 => none
  | k + 1 => (l[k]?).map (·.r)

set_option maxRecDepth 100000 in
set_option maxHeartbeats 1000000 in
theorem checkArcs_c (l : List Arc) (A : Option Addr) (c : Nat) (w : World) (h : ArcsS w A l) :
    Calls Tryz.prog 49 #[.slice A l.length c] w fun e w' => e = .returned (.tuple #[.int .i64 (ckA l).1, .int .i64 (ckA l).2]) ∧ Ext w w' := by
  by_cases h0 : l.length < 2
  · have hT : ckA l = (0, 10) := by simp [ckA, h0]
    have hT' := Lib.hid hT; clear hT
    have h0' : (l.length : Int) < 2 := by omega
    go_enter Tryz.func49, Tryz.ntmps49
    go_wp2
    go_ret2
    exact ⟨by rw [hT'.out]; rfl, Ext.refl _⟩
  by_cases h1 : 12 < l.length
  · have hT : ckA l = (0, 8) := by simp [ckA, h0, h1]
    have hT' := Lib.hid hT; clear hT
    go_enter Tryz.func49, Tryz.ntmps49
    go_wp2
    go_ret2
    exact ⟨by rw [hT'.out]; rfl, Ext.refl _⟩
  obtain ⟨b, off, rfl, hbl, hR⟩ := h.resolve_left (fun e => h0 (by rw [e]; simp))
  have hT : ckA l = ckArcs 0 none l := by simp [ckA, h0, h1]
  have hT' := Lib.hid hT; clear hT
  go_enter Tryz.func49, Tryz.ntmps49
  go_wp2
  go_loopw [4, 5, 6, 7, 18] (fun _ _ _ _ i wr => ∃ k : Nat, k ≤ l.length ∧ i = .int .i64 k ∧ Ext w wr ∧ ckArcs 0 none l = ckArcs k (prevA l k) (l.drop k)) (fun _ _ _ _ i _ => l.length - (intOf i).toNat)
  case atStart => exact ⟨0, Nat.zero_le _, rfl, Ext.refl _, rfl⟩
  case round =>
    obtain ⟨k, hk, rfl, hE, hf⟩ := hrel
    have HF := Lib.hid hf; clear hf
    have HHE := Lib.hid hE; clear hE
    by_cases hlt : k < l.length
    · obtain ⟨c1, c2, c3⟩ := hR.ext HHE.out k _ (List.getElem?_eq_getElem hlt)
      have hbw := Nat.lt_of_lt_of_le hbl HHE.out.size
      have hd : ckArcs k (prevA l k) (l.drop k) = if arcBad l[k] ≠ 0 then ((k : Int), arcBad l[k]) else if ordBad (prevA l k) l[k].r = true then ((k : Int), 9) else ckArcs (k + 1) (prevA l (k + 1)) (l.drop (k + 1)) := by
        rw [List.drop_eq_getElem_cons hlt, show prevA l (k + 1) = some l[k].r from by simp [prevA, hlt]]; rfl
      have HD := Lib.hid hd; clear hd
      generalize l[k] = x at *
      go_wp2
      refine wp_region_T (R := Ext) (fun w' => Ext (wr.alloc (.cells #[.int .i64 x.r, .int .i64 x.lo, .int .i64 x.hi] 42)) w') [(0, 0), (1, 0), (2, 0), (3, 0), (4, 0), (5, 0), (6, 0), (7, 0), (8, 1), (9, 0), (10, 0)] (by kernel_rfl) (by kernel_rfl) (fun _ _ h k => k.trans h) ((Ext.refl _).drew) ?_
      iterate 8
        first
          | (apply wpT_no
             focus (simp only [List.getElem?_toArray, List.getElem?_cons_zero, List.getElem?_cons_succ]; rfl)
             focus rfl
             focus (simp only [Act.put, List.setIfInBounds_toArray, List.set_cons_zero, List.set_cons_succ]; rfl))
          | (apply wpT_ex
             focus (simp only [List.getElem?_toArray, List.getElem?_cons_zero, List.getElem?_cons_succ]; rfl)
             focus rfl
             focus
               intro w1 hC Ψ hΨ
               have d1 : w1.cell? ⟨wr.heap.size, 0, none⟩ = some (.int .i64 x.r) := hC.cell (by simp)
               have d2 : w1.cell? ⟨wr.heap.size, 1, none⟩ = some (.int .i64 x.lo) := hC.cell (by simp)
               have d3 : w1.cell? ⟨wr.heap.size, 2, none⟩ = some (.int .i64 x.hi) := hC.cell (by simp)
               go_simp; (try (go_bits; (try go_simp)))
               first
                 | exact hΨ _ (Ext.refl _)
                 | (go_at_call 32; refine (within_c _ _ _ _).mono ?_; rintro e w2 ⟨rfl, rfl⟩; exact ⟨_, rfl, hΨ _ (Ext.refl _)⟩)
                 | (go_at_call 46; refine (ranged_c _ _).mono ?_; rintro e w2 ⟨rfl, rfl⟩; exact ⟨_, rfl, hΨ _ (Ext.refl _)⟩)
                 | (go_at_call 69; refine (range_isTime_c _ _ _).mono ?_; rintro e w2 ⟨rfl, hE2⟩; exact ⟨_, rfl, hΨ _ hE2⟩)
             focus (simp only [Act.put, List.setIfInBounds_toArray, List.set_cons_zero, List.set_cons_succ]; rfl))
      apply wpT_fr (fun v w => ∃ g, v = .slice (some ⟨g, 0, none⟩) 2 2 ∧ w.cell? ⟨g, 0, none⟩ = some (.int .i64 (rgd (decide (1 ≤ x.r) && decide (x.r ≤ 100000)))) ∧ w.cell? ⟨g, 1, none⟩ = some (.int .i64 (rngE x.lo x.hi 0 1000000000000)))
      focus (simp only [List.getElem?_toArray, List.getElem?_cons_zero, List.getElem?_cons_succ]; rfl)
      focus rfl
      focus
        rintro v wa wb hab ⟨g, rfl, hg, hg2⟩
        exact ⟨g, rfl, hab.cell hg, hab.cell hg2⟩
      focus
        intro w1 hC Ψ hΨ
        go_simp
        exact hΨ _ _ ((Ext.refl _).alloc _) ⟨_, rfl, by simp, by simp⟩
      intro v0 a0' ha
      simp only [Act.put, List.setIfInBounds_toArray, List.set_cons_zero, List.set_cons_succ] at ha
      subst ha
      iterate 2
        first
          | (apply wpT_no
             focus (simp only [List.getElem?_toArray, List.getElem?_cons_zero, List.getElem?_cons_succ]; rfl)
             focus rfl
             focus (simp only [Act.put, List.setIfInBounds_toArray, List.set_cons_zero, List.set_cons_succ]; rfl))
          | (apply wpT_ex
             focus (simp only [List.getElem?_toArray, List.getElem?_cons_zero, List.getElem?_cons_succ]; rfl)
             focus rfl
             focus
               intro w1 hC Ψ hΨ
               obtain ⟨hC, g, hv, hv0, hv1⟩ := hC; subst hv
               have HV := Lib.hid (And.intro hv0 hv1); clear hv0 hv1
               go_simp; (try (go_bits; (try go_simp)))
               first
                 | exact hΨ _ (Ext.refl _)
                 | (go_at_call 25; refine (first2_c _ _ _ _ HV.out.1 HV.out.2).mono ?_; rintro e w2 ⟨rfl, rfl⟩; exact ⟨_, rfl, hΨ _ (Ext.refl _)⟩)
             focus (simp only [Act.put, List.setIfInBounds_toArray, List.set_cons_zero, List.set_cons_succ]; rfl))
      refine wpT_nil ?_
      intro w1 hC
      have hrb : firstE [rgd (decide (1 ≤ x.r) && decide (x.r ≤ 100000)), rngE x.lo x.hi 0 1000000000000] = arcBad x := rfl
      rw [hrb]
      have HC := Lib.hid hC.1; clear hC hrb
      have hE1 : Ext w w1 := (HHE.out.alloc _).trans HC.out
      have HE1 := Lib.hid hE1; clear hE1
      generalize arcBad x = r at *
      by_cases hr : r = 0
      · subst hr
        have e1 : w1.cell? ⟨wr.heap.size, 0, none⟩ = some (.int .i64 x.r) := HC.out.cell (by simp)
        clear c1 c2 c3
        rcases Nat.eq_zero_or_pos k with hk0 | hkp
        · subst hk0
          go_wp2
          refine wp_region_T (R := Ext) (fun w' => Ext (w1) w') [(0, 0), (1, 0), (2, 0), (3, 0), (4, 0), (5, 0), (6, 0), (7, 0), (8, 0), (9, 0), (10, 0), (11, 0), (12, 0)] (by kernel_rfl) (by kernel_rfl) (fun _ _ h k => k.trans h) ((Ext.refl _).drew) ?_
          iterate 13
            first
              | (apply wpT_no
                 focus (simp only [List.getElem?_toArray, List.getElem?_cons_zero, List.getElem?_cons_succ]; rfl)
                 focus rfl
                 focus (simp only [Act.put, List.setIfInBounds_toArray, List.set_cons_zero, List.set_cons_succ]; rfl))
              | (apply wpT_ex
                 focus (simp only [List.getElem?_toArray, List.getElem?_cons_zero, List.getElem?_cons_succ]; rfl)
                 focus rfl
                 focus
                   intro w1 hC Ψ hΨ
                   have d1 := hC.cell e1
                   go_simp; (try (go_bits; (try go_simp)))
                   first
                     | exact hΨ _ (Ext.refl _)
                 focus (simp only [Act.put, List.setIfInBounds_toArray, List.set_cons_zero, List.set_cons_succ]; rfl))
          refine wpT_nil ?_
          intro w2 hC
          have HC := Lib.hid hC; clear hC
          go_wp2
          go_roundw
          case rel => exact ⟨1, by omega, by go_num, HE1.out.trans HC.out, by rw [HF.out, HD.out]; simp [prevA, ordBad]⟩
          case measure => simp [intOf] <;> omega
        · obtain ⟨m, rfl⟩ : ∃ m, k = m + 1 := ⟨k - 1, by omega⟩
          have hm : m < l.length := by omega
          have e2 := (hR.ext HE1.out m _ (List.getElem?_eq_getElem hm)).1
          have hp : prevA l (m + 1) = some l[m].r := by simp [prevA, hm]
          rw [hp] at HD HF
          clear hp
          generalize l[m] = y at *
          have hpos : (0 : Int) < (m : Int) + 1 := by omega
          go_wp2
          refine wp_region_T (R := Ext) (fun w' => Ext (w1) w') [(0, 0), (1, 0), (2, 0), (3, 0), (4, 0), (5, 0), (6, 0), (7, 0), (8, 0), (9, 0), (10, 0), (11, 0), (12, 0)] (by kernel_rfl) (by kernel_rfl) (fun _ _ h k => k.trans h) ((Ext.refl _).drew) ?_
          iterate 13
            first
              | (apply wpT_no
                 focus (simp only [List.getElem?_toArray, List.getElem?_cons_zero, List.getElem?_cons_succ]; rfl)
                 focus rfl
                 focus (simp only [Act.put, List.setIfInBounds_toArray, List.set_cons_zero, List.set_cons_succ]; rfl))
              | (apply wpT_ex
                 focus (simp only [List.getElem?_toArray, List.getElem?_cons_zero, List.getElem?_cons_succ]; rfl)
                 focus rfl
                 focus
                   intro w1 hC Ψ hΨ
                   have d1 := hC.cell e1
                   have d2 := hC.cell e2
                   go_simp; (try (go_bits; (try go_simp)))
                   first
                     | exact hΨ _ (Ext.refl _)
                 focus (simp only [Act.put, List.setIfInBounds_toArray, List.set_cons_zero, List.set_cons_succ]; rfl))
          refine wpT_nil ?_
          intro w2 hC
          have HC := Lib.hid hC; clear hC
          by_cases hle : x.r ≤ y.r
          · go_wp2
            go_ret2
            have hz : ckA l = ((m : Int) + 1, 9) := by rw [hT'.out, HF.out, HD.out]; simp [hle, ordBad]
            exact ⟨by rw [hz]; rfl, HE1.out.trans HC.out⟩
          · have hz : ckArcs (m + 1) (some y.r) (l.drop (m + 1)) = ckArcs (m + 1 + 1) (prevA l (m + 1 + 1)) (l.drop (m + 1 + 1)) := by rw [HD.out]; simp [hle, ordBad]
            have HZ := Lib.hid hz; clear hz
            go_wp2
            go_roundw
            case rel => exact ⟨m + 1 + 1, by omega, by go_num, HE1.out.trans HC.out, by rw [HF.out, HZ.out]⟩
            case measure => simp [intOf] <;> omega
      · have hrb : (r == 0) = false := by simpa using hr
        go_wp2
        go_ret2
        exact ⟨by rw [hT'.out, HF.out, HD.out, if_pos hr]; rfl, HE1.out⟩
    · go_wp2
      go_ret2
      exact ⟨by rw [hT'.out, HF.out, List.drop_of_length_le (by omega)]; rfl, HHE.out⟩

set_option maxHeartbeats 1000000 in
theorem open_c (l : List Arc) (A : Option Addr) (c : Nat) (w : World) (h : ArcsS w A l) :
    Calls Tryz.prog 29 #[.slice A l.length c] w fun e w' => e = .returned (.tuple #[.slice A l.length c, .int .i64 (ckA l).2]) ∧ Ext w w' := by
  have hc := checkArcs_c l A c w h
  generalize (ckA l).2 = r at *
  generalize (ckA l).1 = q at *
  have HC := Lib.hid hc; clear hc
  go_enter Tryz.func29, Tryz.ntmps29
  go_wp2_with (go_at_call 49; refine HC.out.mono ?_; go_must (rintro e W ⟨rfl, hE1⟩; have HE := Lib.hid hE1; clear hE1))
  go_ret2
  exact ⟨rfl, HE.out⟩
theorem less_c (a b : Int × Int) (w : World) (h1 : -9223372036854775807 ≤ a.1 * b.2) (h2 : a.1 * b.2 ≤ 9223372036854775807) (h3 : -9223372036854775807 ≤ b.1 * a.2) (h4 : b.1 * a.2 ≤ 9223372036854775807) :
    Calls Tryz.prog 51 #[.agg #[.int .i64 a.1, .int .i64 a.2], .agg #[.int .i64 b.1, .int .i64 b.2]] w fun e w' => e = .returned (.bool (decide (a.1 * b.2 < b.1 * a.2))) ∧ Ext w w' := by
  go_enter Tryz.func51, Tryz.ntmps51
  go_wp2
  go_ret
  exact ⟨rfl, ((Ext.refl _).alloc _).alloc _⟩
end Go.Proofs.YtepaabbfindaeaaGreatDoor
namespace Go.Proofs.YtepaabbfindaeaaGreatDoor
open Go.RowKit Go.Shelf
attribute [local go_sem] Oper.semAt_some

def encP (p : Arc × Arc) : Array Value := #[.agg #[.int .i64 p.1.r, .int .i64 p.1.lo, .int .i64 p.1.hi], .agg #[.int .i64 p.2.r, .int .i64 p.2.lo, .int .i64 p.2.hi]]
/-- The pairs that have come when k outer rounds are over. -/
def pairsTo (l : List Arc) : Nat → List (Arc × Arc)
  | 0 => []
  | k + 1 => pairsTo l k ++ (l.take k).map fun a => (a, l.getD k ⟨0, 0, 0⟩)
theorem pairsTo_prefix (l : List Arc) {k j : Nat} (h : k ≤ j) : pairsTo l k <+: pairsTo l j := by
  induction j with
  | zero => obtain rfl : k = 0 := by omega
            exact List.prefix_refl _
  | succ j ih =>
    by_cases hk : k = j + 1
    · subst hk; exact List.prefix_refl _
    · exact (ih (by omega)).trans (List.prefix_append _ _)

set_option maxRecDepth 100000 in
set_option maxHeartbeats 2000000 in
theorem pairs_iter (l : List Arc) (b off c : Nat) (n₀ : Nat) (w : World) (hb : b < n₀) (hn₀ : n₀ ≤ w.heap.size) (hR : ArcsR w b off l) (hl : l.length ≤ 12) (hc : l.length ≤ c) :
    Iter Tryz.prog 50 #[.slice (some ⟨b, off, none⟩) l.length c] #[] encP (pairsTo l l.length) n₀ w := by
  intro m yl J W hwW hJ hJB hY h0
  have HJB : ∀ s A, J s A → ArcsR A b off l := by
    intro s A hs i x hx
    have hr := hR.ext hwW i x hx
    have hh := hJB s A hs b hb
    have hcc : ∀ o, A.cell? ⟨b, o, none⟩ = W.cell? ⟨b, o, none⟩ := fun o => World.cell?_of_block (w := W) hh
    exact ⟨(hcc _).trans hr.1, (hcc _).trans hr.2.1, (hcc _).trans hr.2.2⟩
  have HY := Lib.hid hY; clear hY
  have HJ := Lib.hid hJ; clear hJ
  have HJR := Lib.hid HJB; clear HJB hJB
  show CallsIn Fence.wide (m + 1) Tryz.prog 50 #[.slice (some ⟨b, off, none⟩) l.length c, .func (.yield yl) #[] #[]] W _
  have h1 : 1 ≤ m + 1 := by omega
  refine callsIn_of_wp Tryz.func50 rfl trivial ?_ rfl
  simp only [Tryz.ntmps50, List.size_toArray, List.length_cons, List.length_nil, Nat.reduceAdd, Nat.reduceSub, Array.replicate_succ, Array.replicate_zero, List.push_toArray, List.append_toArray, List.nil_append, List.cons_append]
  gi_wp2
  gi_loopw [4, 5, 7, 10] (fun _ _ _ i wr => ∃ k : Nat, k ≤ l.length ∧ i = .int .i64 k ∧ J (pairsTo l k) wr ∧ W.heap.size ≤ wr.heap.size) (fun _ _ _ i _ => l.length - (intOf i).toNat)
  case atStart => exact ⟨0, Nat.zero_le _, rfl, h0, Nat.le_refl _⟩
  case round =>
    obtain ⟨k, hk, rfl, hJs, hsz⟩ := hrel
    have HJs := Lib.hid hJs; clear hJs
    by_cases hlt : k < l.length
    · obtain ⟨c1, c2, c3⟩ := HJR.out _ _ HJs.out k _ (List.getElem?_eq_getElem hlt)
      have hgd : l.getD k ⟨0, 0, 0⟩ = l[k] := by simp [hlt]
      have HG := Lib.hid hgd; clear hgd
      generalize l[k] = y at *
      have hc0 : (k : Int) ≤ (c : Int) := by omega
      gi_wp2
      have hE2 : Ext wr (wr.alloc (.cells #[.int .i64 y.r, .int .i64 y.lo, .int .i64 y.hi] 42)) := (Ext.refl wr).alloc _
      have q1 : (wr.alloc (.cells #[.int .i64 y.r, .int .i64 y.lo, .int .i64 y.hi] 42)).cell? ⟨wr.heap.size, 0, none⟩ = some (.int .i64 y.r) := by simp
      have q2 : (wr.alloc (.cells #[.int .i64 y.r, .int .i64 y.lo, .int .i64 y.hi] 42)).cell? ⟨wr.heap.size, 1, none⟩ = some (.int .i64 y.lo) := by simp
      have q3 : (wr.alloc (.cells #[.int .i64 y.r, .int .i64 y.lo, .int .i64 y.hi] 42)).cell? ⟨wr.heap.size, 2, none⟩ = some (.int .i64 y.hi) := by simp
      have hlt2 : wr.heap.size < (wr.alloc (.cells #[.int .i64 y.r, .int .i64 y.lo, .int .i64 y.hi] 42)).heap.size := by simp
      have hJ2 := HJ.out _ _ _ HJs.out hE2
      have hsz2 : W.heap.size ≤ (wr.alloc (.cells #[.int .i64 y.r, .int .i64 y.lo, .int .i64 y.hi] 42)).heap.size := by simp; omega
      obtain ⟨g5, hg5⟩ : ∃ g5, wr.heap.size = g5 := ⟨_, rfl⟩
      rw [hg5] at q1 q2 q3 hlt2
      have hWg : W.heap.size ≤ g5 := by omega
      generalize wr.alloc (.cells #[.int .i64 y.r, .int .i64 y.lo, .int .i64 y.hi] 42) = w2 at *
      rw [hg5]
      have HQ := Lib.hid (And.intro q1 (And.intro q2 q3)); clear q1 q2 q3
      have HJ2 := Lib.hid hJ2; clear hJ2 hE2 c1 c2 c3
      clear hg5
      have hkn : min k l.length = k := by omega
      have hgt : ∀ j, j < k → (l.take k)[j]? = some (l.getD j ⟨0, 0, 0⟩) := fun j hj => by simp [hj, show j < l.length by omega]
      have HGT := Lib.hid hgt; clear hgt
      gi_loopw [7, 19] (fun _ i wr3 => ∃ j : Nat, j ≤ k ∧ i = .int .i64 j ∧ J (pairsTo l k ++ ((l.take k).take j).map fun a => (a, y)) wr3 ∧ W.heap.size ≤ wr3.heap.size ∧ g5 < wr3.heap.size ∧ wr3.cell? ⟨g5, 0, none⟩ = some (.int .i64 y.r) ∧ wr3.cell? ⟨g5, 1, none⟩ = some (.int .i64 y.lo) ∧ wr3.cell? ⟨g5, 2, none⟩ = some (.int .i64 y.hi)) (fun _ i _ => k - (intOf i).toNat)
      case atStart => exact ⟨0, Nat.zero_le _, rfl, by simpa using HJ2.out, hsz2, hlt2, HQ.out.1, HQ.out.2.1, HQ.out.2.2⟩
      case round =>
        obtain ⟨j, hj, rfl, hJs3, hsz3, hlt3, p1, p2, p3⟩ := hrel
        have HJs3 := Lib.hid hJs3; clear hJs3
        obtain ⟨w3, hw3⟩ : ∃ w3, w3 = wr := ⟨_, rfl⟩
        by_cases hjk : j < k
        · have hjl : j < l.length := by omega
          obtain ⟨c1, c2, c3⟩ := HJR.out _ _ HJs3.out j _ (List.getElem?_eq_getElem hjl)
          have hgx : l.getD j ⟨0, 0, 0⟩ = l[j] := by simp [hjl]
          have htk : ((l.take k).take (j + 1)).map (fun a => (a, y)) = ((l.take k).take j).map (fun a => (a, y)) ++ [(l[j], y)] := by
            rw [List.take_add_one, HGT.out j hjk, hgx]; simp
          have hpre : (pairsTo l k ++ ((l.take k).take j).map fun a => (a, y)) ++ [(l[j], y)] <+: pairsTo l l.length := by
            refine List.IsPrefix.trans ?_ (pairsTo_prefix l (show k + 1 ≤ l.length by omega))
            rw [List.append_assoc, ← htk]
            simp only [pairsTo, HG.out]
            refine (List.prefix_append_right_inj _).2 ?_
            exact List.IsPrefix.map _ (List.take_prefix _ _)
          have HTK := Lib.hid htk; clear htk
          generalize l[j] = x at *
          have hE4 : Ext wr (wr.alloc (.cells #[.int .i64 x.r, .int .i64 x.lo, .int .i64 x.hi] 42)) := (Ext.refl wr).alloc _
          obtain ⟨fn, tmps, assign, body, hy, hRd⟩ := HY.out _ (x, y) (wr.alloc (.cells #[.int .i64 x.r, .int .i64 x.lo, .int .i64 x.hi] 42)) (HJ.out _ _ _ HJs3.out hE4) hpre
          simp only [encP] at hy
          have HE4 := Lib.hid hE4; clear hE4 hpre
          have HRd := Lib.hid hRd; clear hRd
          gi_wp2
          refine HRd.out.mono ?_
          rintro e B ⟨rfl, hJB, hszB, hkB⟩
          have r1 : B.cell? ⟨g5, 0, none⟩ = some (.int .i64 y.r) := (World.cell?_of_block (w := wr.alloc (.cells #[.int .i64 x.r, .int .i64 x.lo, .int .i64 x.hi] 42)) (hkB g5 hWg (by simp; omega))).trans (HE4.out.cell p1)
          have r2 : B.cell? ⟨g5, 1, none⟩ = some (.int .i64 y.lo) := (World.cell?_of_block (w := wr.alloc (.cells #[.int .i64 x.r, .int .i64 x.lo, .int .i64 x.hi] 42)) (hkB g5 hWg (by simp; omega))).trans (HE4.out.cell p2)
          have r3 : B.cell? ⟨g5, 2, none⟩ = some (.int .i64 y.hi) := (World.cell?_of_block (w := wr.alloc (.cells #[.int .i64 x.r, .int .i64 x.lo, .int .i64 x.hi] 42)) (hkB g5 hWg (by simp; omega))).trans (HE4.out.cell p3)
          have hszB' : wr.heap.size + 1 ≤ B.heap.size := by simpa using hszB
          have HJB := Lib.hid hJB; clear hJB hkB hszB c1 c2 c3 hy
          gi_wp2
          go_roundw
          case rel => exact ⟨j + 1, by omega, by go_num, by rw [HTK.out, ← List.append_assoc]; exact HJB.out, by omega, by omega, r1, r2, r3⟩
          case measure => simp [intOf] <;> omega
        · have hjk2 : j = k := by omega
          subst hjk2
          have hJ5 : J (pairsTo l (j + 1)) wr := by
            have h2 := HJs3.out
            rw [List.take_take, Nat.min_self] at h2
            simp only [pairsTo, HG.out]
            exact h2
          have HJ5 := Lib.hid hJ5; clear hJ5
          gi_wp2
          go_roundw
          case rel => exact ⟨j + 1, by omega, by go_num, HJ5.out, hsz3⟩
          case measure => simp [intOf] <;> omega
    · have hkk : k = l.length := by omega
      subst hkk
      gi_wp2
      go_end0
      exact ⟨⟨_, rfl⟩, HJs.out⟩
end Go.Proofs.YtepaabbfindaeaaGreatDoor
namespace Go.Proofs.YtepaabbfindaeaaGreatDoor
open Go.RowKit Go.Shelf
attribute [local go_sem] Oper.semAt_some
theorem wide_fn (f : FuncId) : Fence.wide.fn f = True := rfl
theorem wide_depth : Fence.wide.depth.isSome = false := rfl
attribute [local go_sem] wide_fn wide_depth

def ArcOk (x : Arc) : Prop := 1 ≤ x.r ∧ x.r ≤ 100000 ∧ 0 ≤ x.lo ∧ x.lo ≤ 1000000000000 ∧ 0 ≤ x.hi ∧ x.hi ≤ 1000000000000
structure Slow where
  le : Int × Int
  mo : Int × Int
  bg : Bool
def slow0 : Slow := ⟨(0, 0), (0, 0), false⟩
def lessB (a b : Int × Int) : Bool := decide (a.1 * b.2 < b.1 * a.2)
def wayP (p : Arc × Arc) : Int := 2 * (p.2.r - p.1.r)
def loP (p : Arc × Arc) : Int × Int := (p.2.lo - p.1.hi, wayP p)
def hiP (p : Arc × Arc) : Int × Int := (p.2.hi - p.1.lo, wayP p)
def slowS (s : Slow) (p : Arc × Arc) : Slow := ⟨if !s.bg || lessB s.le (loP p) then loP p else s.le, if !s.bg || lessB (hiP p) s.mo then hiP p else s.mo, true⟩
def slowL (xs : List (Arc × Arc)) : Slow := xs.foldl slowS slow0
theorem slowL_snoc (xs : List (Arc × Arc)) (p : Arc × Arc) : slowL (xs ++ [p]) = slowS (slowL xs) p := by simp [slowL]

/-- The numbers of a share keep small. -/
def Small (q : Int × Int) : Prop := -1000000000000 ≤ q.1 ∧ q.1 ≤ 1000000000000 ∧ -200000 ≤ q.2 ∧ q.2 ≤ 200000
theorem Small.mul {a b : Int × Int} (ha : Small a) (hb : Small b) : -9223372036854775807 ≤ a.1 * b.2 ∧ a.1 * b.2 ≤ 9223372036854775807 := by
  obtain ⟨a1, a2, -, -⟩ := ha
  obtain ⟨-, -, b1, b2⟩ := hb
  have h1 : (0 : Int) ≤ (1000000000000 - a.1) * (b.2 + 200000) := Int.mul_nonneg (by omega) (by omega)
  have h2 : (0 : Int) ≤ (a.1 + 1000000000000) * (b.2 + 200000) := Int.mul_nonneg (by omega) (by omega)
  have h3 : (0 : Int) ≤ (1000000000000 - a.1) * (200000 - b.2) := Int.mul_nonneg (by omega) (by omega)
  have h4 : (0 : Int) ≤ (a.1 + 1000000000000) * (200000 - b.2) := Int.mul_nonneg (by omega) (by omega)
  rw [Int.sub_mul, Int.mul_add, Int.mul_add] at h1
  rw [Int.add_mul, Int.mul_add, Int.mul_add] at h2
  rw [Int.sub_mul, Int.mul_sub, Int.mul_sub] at h3
  rw [Int.add_mul, Int.mul_sub, Int.mul_sub] at h4
  constructor <;> omega
theorem small_lo {p : Arc × Arc} (h1 : ArcOk p.1) (h2 : ArcOk p.2) : Small (loP p) := by
  unfold ArcOk at h1 h2; unfold Small loP wayP; simp only; omega
theorem small_hi {p : Arc × Arc} (h1 : ArcOk p.1) (h2 : ArcOk p.2) : Small (hiP p) := by
  unfold ArcOk at h1 h2; unfold Small hiP wayP; simp only; omega
theorem pairsTo_ok {l : List Arc} (h : ∀ x ∈ l, ArcOk x) : ∀ k, k ≤ l.length → ∀ p ∈ pairsTo l k, ArcOk p.1 ∧ ArcOk p.2
  | 0, _ => by simp [pairsTo]
  | k + 1, hk => by
    intro p hp
    simp only [pairsTo, List.mem_append, List.mem_map] at hp
    rcases hp with hp | ⟨a, ha, rfl⟩
    · exact pairsTo_ok h k (by omega) p hp
    · exact ⟨h a (List.mem_of_mem_take ha), by rw [show l.getD k ⟨0, 0, 0⟩ = l[k] by simp [show k < l.length by omega]]; exact h _ (List.getElem_mem _)⟩
theorem small_slow : ∀ (xs : List (Arc × Arc)) (s : Slow), Small s.le → Small s.mo → (∀ p ∈ xs, ArcOk p.1 ∧ ArcOk p.2) → Small (xs.foldl slowS s).le ∧ Small (xs.foldl slowS s).mo
  | [], _, h1, h2, _ => ⟨h1, h2⟩
  | p :: xs, s, h1, h2, h => by
    have hp := h p (by simp)
    refine small_slow xs (slowS s p) ?_ ?_ fun q hq => h q (by simp [hq])
    · unfold slowS; dsimp only; split
      · exact small_lo hp.1 hp.2
      · exact h1
    · unfold slowS; dsimp only; split
      · exact small_hi hp.1 hp.2
      · exact h2
theorem small_zero : Small (0, 0) := by unfold Small; simp

theorem less_s {a b : Int × Int} (ha : Small a) (hb : Small b) (w : World) :
    Calls Tryz.prog 51 #[.agg #[.int .i64 a.1, .int .i64 a.2], .agg #[.int .i64 b.1, .int .i64 b.2]] w fun e w' => e = .returned (.bool (lessB a b)) ∧ Ext w w' :=
  less_c a b w (ha.mul hb).1 (ha.mul hb).2 (hb.mul ha).1 (hb.mul ha).2
def aggP (q : Int × Int) : Value := .agg #[.int .i64 q.1, .int .i64 q.2]
structure SlowW (A : World) (n n1 n2 : Nat) (s : Slow) : Prop where
  le : Blk2 A n (.int .i64 s.le.1) (.int .i64 s.le.2)
  mo : Blk2 A n1 (.int .i64 s.mo.1) (.int .i64 s.mo.2)
  bg : A.cell? ⟨n2, 0, none⟩ = some (.bool s.bg)
  bf : A.frozen? ⟨n2, 0, none⟩ = false
  lt : n2 < A.heap.size
theorem new1 (w : World) (v : Value) (t : TypeId) : (w.alloc (.cells #[v] t)).cell? ⟨w.heap.size, 0, none⟩ = some v ∧ (w.alloc (.cells #[v] t)).frozen? ⟨w.heap.size, 0, none⟩ = false := ⟨by simp, by simp⟩
theorem SlowW.putObj {A : World} {n n1 n2 : Nat} {s : Slow} (h : SlowW A n n1 n2 s) {k : Nat} (hn : n < k) (h1 : n1 < k) (h2 : n2 < k) (o : Obj) : SlowW (A.putObj k o) n n1 n2 s := by
  have hc : ∀ g, g < k → (A.putObj k o).heap[g]? = A.heap[g]? := fun g hg => World.putObj_heap_other (by omega)
  have c : ∀ g x, g < k → (A.putObj k o).cell? ⟨g, x, none⟩ = A.cell? ⟨g, x, none⟩ := fun g x hg => World.cell?_of_block (w := A) (hc g hg)
  have z : ∀ g x, g < k → (A.putObj k o).frozen? ⟨g, x, none⟩ = A.frozen? ⟨g, x, none⟩ := fun g x hg => World.frozen?_of_block (w := A) (hc g hg)
  obtain ⟨⟨a1, a2, a3, a4, a5⟩, ⟨b1, b2, b3, b4, b5⟩, c1, c2, c3⟩ := h
  refine ⟨⟨?_, ?_, ?_, ?_, ?_⟩, ⟨?_, ?_, ?_, ?_, ?_⟩, ?_, ?_, ?_⟩
  · rw [c _ _ (by omega)]; exact a1
  · rw [c _ _ (by omega)]; exact a2
  · rw [z _ _ (by omega)]; exact a3
  · rw [z _ _ (by omega)]; exact a4
  · rw [World.putObj_size]; exact a5
  · rw [c _ _ (by omega)]; exact b1
  · rw [c _ _ (by omega)]; exact b2
  · rw [z _ _ (by omega)]; exact b3
  · rw [z _ _ (by omega)]; exact b4
  · rw [World.putObj_size]; exact b5
  · rw [c _ _ (by omega)]; exact c1
  · rw [z _ _ (by omega)]; exact c2
  · rw [World.putObj_size]; exact c3
theorem SlowW.ext {A B : World} {n n1 n2 : Nat} {s : Slow} (h : SlowW A n n1 n2 s) (hE : Ext A B) : SlowW B n n1 n2 s :=
  ⟨h.le.ext hE, h.mo.ext hE, hE.cell h.bg, hE.fz h.lt h.bf, Nat.lt_of_lt_of_le h.lt hE.size⟩
/-- A write of two cells of another block. -/
theorem Blk2.far {w : World} {g k : Nat} {a b : Value} (h : Blk2 w g a b) (hk : g ≠ k) (u v : Value) : Blk2 ((w.setCell ⟨k, 0, none⟩ u).setCell ⟨k, 1, none⟩ v) g a b :=
  ⟨put2_far h.c0 hk u v 0 1, put2_far h.c1 hk u v 0 1, by simp [h.f0], by simp [h.f1], by simpa using h.lt⟩
theorem SlowW.putLe {A : World} {n n1 n2 : Nat} {s : Slow} (h : SlowW A n n1 n2 s) (h1 : n1 ≠ n) (h2 : n2 ≠ n) (u : Int × Int) : SlowW ((A.setCell ⟨n, 0, none⟩ (.int .i64 u.1)).setCell ⟨n, 1, none⟩ (.int .i64 u.2)) n n1 n2 ⟨u, s.mo, s.bg⟩ :=
  ⟨h.le.put _ _, h.mo.far h1 _ _, put2_far h.bg h2 _ _ 0 1, by simp [h.bf], by simpa using h.lt⟩
theorem SlowW.putMo {A : World} {n n1 n2 : Nat} {s : Slow} (h : SlowW A n n1 n2 s) (h1 : n ≠ n1) (h2 : n2 ≠ n1) (u : Int × Int) : SlowW ((A.setCell ⟨n1, 0, none⟩ (.int .i64 u.1)).setCell ⟨n1, 1, none⟩ (.int .i64 u.2)) n n1 n2 ⟨s.le, u, s.bg⟩ :=
  ⟨h.le.far h1 _ _, h.mo.put _ _, put2_far h.bg h2 _ _ 0 1, by simp [h.bf], by simpa using h.lt⟩
theorem far1 {w : World} {g k o : Nat} {x : Value} (h : w.cell? ⟨g, o, none⟩ = some x) (hk : g ≠ k) (u : Value) (j : Nat) : (w.setCell ⟨k, j, none⟩ u).cell? ⟨g, o, none⟩ = some x :=
  (World.cell?_setCell_other _ _ _ _ (fun e => hk (by injection e with e1; exact e1.symm))).trans h
theorem SlowW.putBg {A : World} {n n1 n2 : Nat} {s : Slow} (h : SlowW A n n1 n2 s) (h1 : n ≠ n2) (h2 : n1 ≠ n2) (b : Bool) : SlowW (A.setCell ⟨n2, 0, none⟩ (.bool b)) n n1 n2 ⟨s.le, s.mo, b⟩ :=
  ⟨⟨far1 h.le.c0 h1 _ 0, far1 h.le.c1 h1 _ 0, by simp [h.le.f0], by simp [h.le.f1], by simpa using h.le.lt⟩, ⟨far1 h.mo.c0 h2 _ 0, far1 h.mo.c1 h2 _ 0, by simp [h.mo.f0], by simp [h.mo.f1], by simpa using h.mo.lt⟩,
    World.cell?_setCell_same _ _ _ h.bg, by simp [h.bf], by simpa using h.lt⟩
/-- In a round: what lay before the loop's own blocks, and what lies from k on, is as it was. -/
structure Round (w V : World) (k : Nat) (A : World) : Prop where
  ext : Ext w A
  size : V.heap.size ≤ A.heap.size
  keep : ∀ g, k ≤ g → g < V.heap.size → A.heap[g]? = V.heap[g]?
theorem Round.start {w V : World} (h : Ext w V) (k : Nat) : Round w V k V := ⟨h, Nat.le_refl _, fun _ _ _ => rfl⟩
theorem Round.grow {w V A B : World} {k : Nat} (h : Round w V k A) (hE : Ext A B) : Round w V k B :=
  ⟨h.ext.trans hE, Nat.le_trans h.size hE.size, fun g hg hv => (hE.block g (Nat.lt_of_lt_of_le hv h.size)).trans (h.keep g hg hv)⟩
theorem Round.set {w V A : World} {k : Nat} (h : Round w V k A) {g : Nat} (hw : w.heap.size ≤ g) (hg : g < k) (o : Nat) (v : Value) : Round w V k (A.setCell ⟨g, o, none⟩ v) :=
  ⟨h.ext.set hw v, by simpa using h.size, fun i hi hv => (Below.heap_setCell _ _ _ _ (by show i ≠ g; omega)).trans (h.keep i hi hv)⟩
theorem Round.new {w V A : World} {k : Nat} (h : Round w V k A) {g : Nat} (hw : w.heap.size ≤ g) (hg : V.heap.size ≤ g) (o : Nat) (v : Value) : Round w V k (A.setCell ⟨g, o, none⟩ v) :=
  ⟨h.ext.set hw v, by simpa using h.size, fun i hi hv => (Below.heap_setCell _ _ _ _ (by show i ≠ g; omega)).trans (h.keep i hi hv)⟩

/-- After the loop. -/
structure DoneW (w : World) (k n n1 n2 : Nat) (s : Slow) (A : World) : Prop where
  ext : Ext w A
  df : A.heap[k]? = some (.deferred (some []))
  sw : SlowW A n n1 n2 s
theorem DoneW.grow {w A B : World} {k n n1 n2 : Nat} {s : Slow} (h : DoneW w k n n1 n2 s A) (hE : Ext A B) : DoneW w k n n1 n2 s B := ⟨h.ext.trans hE, hE.heap h.df, h.sw.ext hE⟩
theorem DoneW.putLe {w A : World} {k n n1 n2 : Nat} {s : Slow} (h : DoneW w k n n1 n2 s A) (hw : w.heap.size ≤ n) (hk : k ≠ n) (h1 : n1 ≠ n) (h2 : n2 ≠ n) : DoneW w k n n1 n2 s ((A.setCell ⟨n, 0, none⟩ (.int .i64 s.le.1)).setCell ⟨n, 1, none⟩ (.int .i64 s.le.2)) :=
  ⟨(h.ext.set hw _).set hw _, ((Below.heap_setCell _ _ _ _ hk).trans (Below.heap_setCell _ _ _ _ hk)).trans h.df, h.sw.putLe h1 h2 s.le⟩
theorem DoneW.putMo {w A : World} {k n n1 n2 : Nat} {s : Slow} (h : DoneW w k n n1 n2 s A) (hw : w.heap.size ≤ n1) (hk : k ≠ n1) (h1 : n ≠ n1) (h2 : n2 ≠ n1) : DoneW w k n n1 n2 s ((A.setCell ⟨n1, 0, none⟩ (.int .i64 s.mo.1)).setCell ⟨n1, 1, none⟩ (.int .i64 s.mo.2)) :=
  ⟨(h.ext.set hw _).set hw _, ((Below.heap_setCell _ _ _ _ hk).trans (Below.heap_setCell _ _ _ _ hk)).trans h.df, h.sw.putMo h1 h2 s.mo⟩

set_option maxRecDepth 100000 in
set_option maxHeartbeats 2000000 in
theorem slowness_c (l : List Arc) (b off c : Nat) (w : World) (hb : b < w.heap.size) (hR : ArcsR w b off l) (hl : l.length ≤ 12) (hc : l.length ≤ c) (hok : ∀ x ∈ l, ArcOk x) :
    Calls Tryz.prog 30 #[.slice (some ⟨b, off, none⟩) l.length c] w fun e w' =>
      e = .returned (.tuple #[aggP (slowL (pairsTo l l.length)).le, aggP (slowL (pairsTo l l.length)).mo, .bool (!lessB (slowL (pairsTo l l.length)).mo (slowL (pairsTo l l.length)).le)]) ∧ Ext w w' := by
  have hpo := pairsTo_ok hok l.length (Nat.le_refl _)
  obtain ⟨items, hitm⟩ : ∃ items, pairsTo l l.length = items := ⟨_, rfl⟩
  rw [hitm] at hpo ⊢
  have HPO := Lib.hid hpo; clear hpo
  refine (callsIn_wide (n := 1)).1 (callsIn_of_wp_marks Tryz.func30 rfl trivial ?_ rfl)
  simp only [Tryz.ntmps30, List.size_toArray, List.length_cons, List.length_nil, Nat.reduceAdd, Nat.reduceSub, Array.replicate_succ, Array.replicate_zero, List.push_toArray, List.append_toArray, List.nil_append, List.cons_append]
  gi_wp2
  obtain ⟨w3, hw3⟩ : ∃ w3, ((w.alloc (.cells #[.int .i64 0, .int .i64 0] 69)).alloc (.cells #[.int .i64 0, .int .i64 0] 69)).alloc (.cells #[.bool false] 4) = w3 := ⟨_, rfl⟩
  have hs3 : w3.heap.size = w.heap.size + 3 := by rw [← hw3]; simp
  have hE3 : Ext w w3 := by rw [← hw3]; exact (((Ext.refl w).alloc _).alloc _).alloc _
  have hS3 : SlowW w3 w.heap.size (w.heap.size + 1) (w.heap.size + 1 + 1) slow0 := by
    subst hw3
    have hq := new1 ((w.alloc (.cells #[.int .i64 0, .int .i64 0] 69)).alloc (.cells #[.int .i64 0, .int .i64 0] 69)) (.bool false) 4
    simp only [World.size_alloc] at hq
    refine ⟨((Blk2.new w (.int .i64 0) (.int .i64 0) 69).ext (((Ext.refl _).alloc _).alloc _)), ?_, hq.1, hq.2, by simp⟩
    have := (Blk2.new (w.alloc (.cells #[.int .i64 0, .int .i64 0] 69)) (.int .i64 0) (.int .i64 0) 69).ext ((Ext.refl _).alloc (.cells #[.bool false] 4))
    simp only [World.size_alloc] at this
    exact this
  have hit := pairs_iter l b off c w.heap.size w3 hb hE3.size (hR.ext hE3) hl hc
  rw [hw3]
  clear hw3
  rw [hitm] at hit
  refine wpIn_range (items := items) (encs := encP) (gf := 50) (lb := #[]) (by go_simp) (fun args w => by rfl) (by omega) hit (fun x => rfl)
    (fun xs A => Ext w A ∧ w.heap.size + 3 ≤ A.heap.size ∧ SlowW A w.heap.size (w.heap.size + 1) (w.heap.size + 1 + 1) (slowL xs)) ?_ ?_ ?_ ⟨hE3, by omega, hS3⟩ ?_ ?_
  · rintro s A B ⟨h1, h2, h3⟩ hx
    exact ⟨h1.trans hx, Nat.le_trans h2 hx.size, h3.ext hx⟩
  · rintro s A k o ⟨h1, h2, h3⟩ hk
    exact ⟨ext_putObj_new h1 (by omega), by rw [World.putObj_size]; exact h2, h3.putObj (by omega) (by omega) (by omega) o⟩
  · rintro s A ⟨h1, _⟩ g hg
    rw [h1.block g hg, hE3.block g hg]
  · rintro m pre p W ⟨h1, h2, h3⟩ hpre hsz
    have hin : ∀ q ∈ pre ++ [p], ArcOk q.1 ∧ ArcOk q.2 := fun q hq => HPO.out q (hpre.subset hq)
    have hp := hin p (by simp)
    have hsm := small_slow pre slow0 small_zero small_zero fun q hq => hin q (by simp [hq])
    have hslo := small_lo hp.1 hp.2
    have hshi := small_hi hp.1 hp.2
    have hsn := slowL_snoc pre p
    change Small (slowL pre).le ∧ Small (slowL pre).mo at hsm
    generalize slowL pre = s at *
    clear hin hpre hitm HPO hit
    have HSN := Lib.hid hsn; clear hsn
    have HP := Lib.hid hp; clear hp
    have HM := Lib.hid (And.intro hsm (And.intro hslo hshi)); clear hsm hslo hshi
    simp only [encP]
    gi_wp2
    refine ⟨((Ext.refl W).alloc _).alloc _, fun o => ?_⟩
    obtain ⟨V, hV, eV, kV⟩ : ∃ V, V = ((W.alloc (.cells #[.int .i64 p.1.r, .int .i64 p.1.lo, .int .i64 p.1.hi] 42)).alloc (.cells #[.int .i64 p.2.r, .int .i64 p.2.lo, .int .i64 p.2.hi] 42)).putObj (w3.heap.size + 1) o ∧ Ext w V ∧ V.heap.size = W.heap.size + 2 :=
      ⟨_, rfl, ext_putObj_new (h1.trans (((Ext.refl W).alloc _).alloc _)) (by omega), by simp [World.putObj_size]⟩
    have hSV : SlowW V w.heap.size (w.heap.size + 1) (w.heap.size + 1 + 1) s := by rw [hV]; exact (h3.ext (((Ext.refl W).alloc _).alloc _)).putObj (by omega) (by omega) (by omega) o
    have hcv : ∀ g x, w3.heap.size + 1 < g → V.cell? ⟨g, x, none⟩ = ((W.alloc (.cells #[.int .i64 p.1.r, .int .i64 p.1.lo, .int .i64 p.1.hi] 42)).alloc (.cells #[.int .i64 p.2.r, .int .i64 p.2.lo, .int .i64 p.2.hi] 42)).cell? ⟨g, x, none⟩ :=
      fun g x hg => by
        have hh : (((W.alloc (.cells #[.int .i64 p.1.r, .int .i64 p.1.lo, .int .i64 p.1.hi] 42)).alloc (.cells #[.int .i64 p.2.r, .int .i64 p.2.lo, .int .i64 p.2.hi] 42)).putObj (w3.heap.size + 1) o).heap[g]? = ((W.alloc (.cells #[.int .i64 p.1.r, .int .i64 p.1.lo, .int .i64 p.1.hi] 42)).alloc (.cells #[.int .i64 p.2.r, .int .i64 p.2.lo, .int .i64 p.2.hi] 42)).heap[g]? := World.putObj_heap_other (by omega)
        rw [hV]; exact World.cell?_of_block hh
    have a0 : V.cell? ⟨W.heap.size, 0, none⟩ = some (.int .i64 p.1.r) := by rw [hcv _ _ (by omega)]; simp
    have a1 : V.cell? ⟨W.heap.size, 1, none⟩ = some (.int .i64 p.1.lo) := by rw [hcv _ _ (by omega)]; simp
    have a2 : V.cell? ⟨W.heap.size, 2, none⟩ = some (.int .i64 p.1.hi) := by rw [hcv _ _ (by omega)]; simp
    have b0 : V.cell? ⟨W.heap.size + 1, 0, none⟩ = some (.int .i64 p.2.r) := by rw [hcv _ _ (by omega)]; simp
    have b1 : V.cell? ⟨W.heap.size + 1, 1, none⟩ = some (.int .i64 p.2.lo) := by rw [hcv _ _ (by omega)]; simp
    have b2 : V.cell? ⟨W.heap.size + 1, 2, none⟩ = some (.int .i64 p.2.hi) := by rw [hcv _ _ (by omega)]; simp
    rw [← hV]
    clear hV hcv h3
    have hE1 := h1; clear h1
    generalize W.heap.size = gA at *
    have hRd := Round.start eV w3.heap.size
    have hnn : w.heap.size < w.heap.size + 1 ∧ w.heap.size + 1 < w.heap.size + 1 + 1 ∧ w.heap.size + 1 + 1 < w3.heap.size ∧ w3.heap.size + 1 < gA := by omega
    generalize w.heap.size + 1 + 1 = n2 at *
    generalize w.heap.size + 1 = n1 at *
    obtain ⟨i1, i2, i3, i4, i5, i6⟩ := HP.out.1
    obtain ⟨j1, j2, j3, j4, j5, j6⟩ := HP.out.2
    have HAB := Lib.hid (And.intro a0 (And.intro a1 (And.intro a2 (And.intro b0 (And.intro b1 b2)))))
    gi_wp2
    refine wpIn_region_E2 (fun w' => Ext (V) w') [0, 1, 2, 3, 4, 5, 6, 7, 8, 9, 10, 11, 12, 13, 14, 15, 16, 17] 9 10 (by kernel_rfl) (by kernel_rfl) ((Ext.refl _).drew) ?_
    iterate 18
      first
        | (apply wpE_no
           focus (simp only [List.getElem?_toArray, List.getElem?_cons_zero, List.getElem?_cons_succ]; rfl)
           focus rfl
           focus (simp only [Act.put, List.setIfInBounds_toArray, List.set_cons_zero, List.set_cons_succ]; rfl))
        | (apply wpE_ex
           focus (simp only [List.getElem?_toArray, List.getElem?_cons_zero, List.getElem?_cons_succ]; rfl)
           focus rfl
           focus
             intro w1 hC Ψ hΨ
             have d := hSV.ext hC
             have q0 := hC.cell a0
             have q1 := hC.cell a1
             have q2 := hC.cell a2
             have q3 := hC.cell b0
             have q4 := hC.cell b1
             have q5 := hC.cell b2
             go_simp; (try (go_bits; (try go_simp)))
             exact hΨ
           focus (simp only [Act.put, List.setIfInBounds_toArray, List.set_cons_zero, List.set_cons_succ]; rfl))
    refine wpE_nil ?_
    refine ⟨fun v v' w' => Ext V w' ∧ ∃ g g', v = .pointer (some ⟨g, 0, none⟩) ∧ v' = .pointer (some ⟨g', 0, none⟩) ∧ g ≠ g' ∧ V.heap.size ≤ g ∧ V.heap.size ≤ g' ∧ Blk2 w' g (.int .i64 (loP p).1) (.int .i64 (loP p).2) ∧ Blk2 w' g' (.int .i64 (hiP p).1) (.int .i64 (hiP p).2), ?_, ?_⟩
    · change wpC _ _ _ _ _ 4 _ _ _
      refine wpC_two (i := 18) (j := 19) (by kernel_rfl) rfl rfl rfl rfl rfl rfl ?_ ?_
      · intro Ψ hΨ
        go_simp
        refine hΨ _ _ ((Ext.refl _).drew.alloc _) ?_
        clear hΨ
        refine wpC_one (i := 19) (by kernel_rfl) rfl rfl rfl ?_
        intro Ψ hΨ
        go_simp
        refine hΨ _ _ (((Ext.refl _).drew.alloc _).alloc _) ?_
        clear hΨ
        refine wpC_one (i := 20) (by kernel_rfl) rfl rfl rfl ?_
        intro Ψ hΨ
        go_simp
        refine hΨ _ _ (((Ext.refl _).drew.alloc _).alloc _) ?_
        clear hΨ
        refine wpC_one (i := 21) (by kernel_rfl) rfl rfl rfl ?_
        intro Ψ hΨ
        go_simp
        refine hΨ _ _ (((Ext.refl _).drew.alloc _).alloc _) ?_
        clear hΨ
        refine wpC_done (by kernel_rfl) ⟨_, _, rfl, ((Ext.refl _).drew.alloc _).alloc _, _, _, rfl, rfl, by omega, by omega, by omega, ?_, ?_⟩ _
        · rw [← kV]; exact (Blk2.new V _ _ 69).ext (((Ext.refl _).alloc _).drew)
        · rw [← kV]; have h := (Blk2.new (V.alloc (.cells #[.int .i64 (p.2.lo - p.1.hi), .int .i64 (2 * (p.2.r - p.1.r))] 69)) (.int .i64 (p.2.hi - p.1.lo)) (.int .i64 (2 * (p.2.r - p.1.r))) 69).ext ((Ext.refl _).drew); rw [World.size_alloc] at h; exact h
      · intro Ψ hΨ
        go_simp
        refine hΨ _ _ ((Ext.refl _).drew.alloc _) ?_
        clear hΨ
        refine wpC_one (i := 18) (by kernel_rfl) rfl rfl rfl ?_
        intro Ψ hΨ
        go_simp
        refine hΨ _ _ (((Ext.refl _).drew.alloc _).alloc _) ?_
        clear hΨ
        refine wpC_one (i := 20) (by kernel_rfl) rfl rfl rfl ?_
        intro Ψ hΨ
        go_simp
        refine hΨ _ _ (((Ext.refl _).drew.alloc _).alloc _) ?_
        clear hΨ
        refine wpC_one (i := 21) (by kernel_rfl) rfl rfl rfl ?_
        intro Ψ hΨ
        go_simp
        refine hΨ _ _ (((Ext.refl _).drew.alloc _).alloc _) ?_
        clear hΨ
        refine wpC_done (by kernel_rfl) ⟨_, _, rfl, ((Ext.refl _).drew.alloc _).alloc _, _, _, rfl, rfl, by omega, by omega, by omega, ?_, ?_⟩ _
        · rw [← kV]; have h := (Blk2.new (V.alloc (.cells #[.int .i64 (p.2.hi - p.1.lo), .int .i64 (2 * (p.2.r - p.1.r))] 69)) (.int .i64 (p.2.lo - p.1.hi)) (.int .i64 (2 * (p.2.r - p.1.r))) 69).ext ((Ext.refl _).drew); rw [World.size_alloc] at h; exact h
        · rw [← kV]; exact (Blk2.new V _ _ 69).ext (((Ext.refl _).alloc _).drew)
    · rintro v v' w1 ⟨hC, g9, g10, rfl, rfl, hne, hg9, hg10, B9, B10⟩
      simp only [Act.put, List.setIfInBounds_toArray, List.set_cons_zero, List.set_cons_succ]
      have hR1 := hRd.grow hC
      have hS1 := hSV.ext hC
      have hb10 := B10.lt
      have hb9 := B9.lt
      have HS1 := Lib.hid (And.intro hR1 (And.intro hS1 (And.intro B9 B10))); clear hC hR1
      clear hS1 B9 B10
      clear a0 a1 a2 b0 b1 b2 hRd hSV
      have e1 : g9 ≠ w.heap.size := by omega
      have e2 : g10 ≠ w.heap.size := by omega
      have e3 : g9 ≠ n1 := by omega
      have e4 : g10 ≠ n1 := by omega
      have e5 : g9 ≠ n2 := by omega
      have e6 : g10 ≠ n2 := by omega
      have e7 : w.heap.size ≠ n1 := by omega
      have e8 : w.heap.size ≠ n2 := by omega
      have e9 : n1 ≠ n2 := by omega
      cases hbg : s.bg with
      | false =>
        obtain ⟨hRx, hSx, B9x, B10x⟩ := HS1.out
        obtain ⟨⟨x1, x2, x3, x4, x5⟩, ⟨y1, y2, y3, y4, y5⟩, z1, z2, z3⟩ := hSx
        obtain ⟨u1, u2, u3, u4, u5⟩ := B9x
        obtain ⟨t1, t2, t3, t4, t5⟩ := B10x
        clear hRx
        rw [hbg] at z1
        gi_wp2
        have hF : slowS s p = ⟨loP p, hiP p, true⟩ := by simp [slowS, *]
        have r := (((((HS1.out.1.set (g := w.heap.size) (by omega) (by omega) 0 (.int .i64 (loP p).1)).set (g := w.heap.size) (by omega) (by omega) 1 (.int .i64 (loP p).2)).set (g := n1) (by omega) (by omega) 0 (.int .i64 (hiP p).1)).set (g := n1) (by omega) (by omega) 1 (.int .i64 (hiP p).2)).set (g := n2) (by omega) (by omega) 0 (.bool true))
        have q := (((HS1.out.2.1.putLe (by omega) (by omega) (loP p)).putMo (by omega) (by omega) (hiP p)).putBg (by omega) (by omega) true)
        exact ⟨⟨r.ext, (by have := r.size; omega), (by rw [HSN.out, hF]; exact q)⟩, r.size, r.keep⟩
      | true =>
        obtain ⟨hRx, hSx, B9x, B10x⟩ := HS1.out
        obtain ⟨⟨x1, x2, x3, x4, x5⟩, ⟨y1, y2, y3, y4, y5⟩, z1, z2, z3⟩ := hSx
        obtain ⟨u1, u2, u3, u4, u5⟩ := B9x
        obtain ⟨t1, t2, t3, t4, t5⟩ := B10x
        clear hRx
        rw [hbg] at z1
        gi_wp2
        obtain ⟨hRo, hSo, hB9, hB10⟩ := HS1.out
        clear x1 x2 x3 x4 x5 y1 y2 y3 y4 y5 z1 z2 z3 u1 u2 u3 u4 u5 t1 t2 t3 t4 t5
        refine CallsIn.inRound _ (callsIn_wide.2 ((less_s HM.out.1.1 HM.out.2.1 _).mono ?_))
        rintro e A2 ⟨rfl, hE2⟩
        have HS2 := Lib.hid (And.intro (hRo.grow hE2) (And.intro (hSo.ext hE2) (And.intro (hB9.ext hE2) (hB10.ext hE2))))
        clear hE2
        clear hRo hSo hB9 hB10
        cases hl1 : lessB s.le (loP p) with
        | false =>
          obtain ⟨hRx, hSx, B9x, B10x⟩ := HS2.out
          obtain ⟨⟨x1, x2, x3, x4, x5⟩, ⟨y1, y2, y3, y4, y5⟩, z1, z2, z3⟩ := hSx
          obtain ⟨u1, u2, u3, u4, u5⟩ := B9x
          obtain ⟨t1, t2, t3, t4, t5⟩ := B10x
          clear hRx
          rw [hbg] at z1
          gi_wp2
          obtain ⟨hRo, hSo, hB9, hB10⟩ := HS2.out
          clear x1 x2 x3 x4 x5 y1 y2 y3 y4 y5 z1 z2 z3 u1 u2 u3 u4 u5 t1 t2 t3 t4 t5
          refine CallsIn.inRound _ (callsIn_wide.2 ((less_s HM.out.2.2 HM.out.1.2 _).mono ?_))
          rintro e A3 ⟨rfl, hE2⟩
          have HS3 := Lib.hid (And.intro (hRo.grow hE2) (And.intro (hSo.ext hE2) (And.intro (hB9.ext hE2) (hB10.ext hE2))))
          clear hE2
          clear hRo hSo hB9 hB10
          cases hl2 : lessB (hiP p) s.mo with
          | false =>
            obtain ⟨hRx, hSx, B9x, B10x⟩ := HS3.out
            obtain ⟨⟨x1, x2, x3, x4, x5⟩, ⟨y1, y2, y3, y4, y5⟩, z1, z2, z3⟩ := hSx
            obtain ⟨u1, u2, u3, u4, u5⟩ := B9x
            obtain ⟨t1, t2, t3, t4, t5⟩ := B10x
            clear hRx
            rw [hbg] at z1
            gi_wp2
            have hF : slowS s p = ⟨s.le, s.mo, true⟩ := by simp [slowS, *]
            have r := (HS3.out.1.set (g := n2) (by omega) (by omega) 0 (.bool true))
            have q := (HS3.out.2.1.putBg (by omega) (by omega) true)
            exact ⟨⟨r.ext, (by have := r.size; omega), (by rw [HSN.out, hF]; exact q)⟩, r.size, r.keep⟩
          | true =>
            obtain ⟨hRx, hSx, B9x, B10x⟩ := HS3.out
            obtain ⟨⟨x1, x2, x3, x4, x5⟩, ⟨y1, y2, y3, y4, y5⟩, z1, z2, z3⟩ := hSx
            obtain ⟨u1, u2, u3, u4, u5⟩ := B9x
            obtain ⟨t1, t2, t3, t4, t5⟩ := B10x
            clear hRx
            rw [hbg] at z1
            gi_wp2
            have hF : slowS s p = ⟨s.le, hiP p, true⟩ := by simp [slowS, *]
            have r := (((HS3.out.1.set (g := n1) (by omega) (by omega) 0 (.int .i64 (hiP p).1)).set (g := n1) (by omega) (by omega) 1 (.int .i64 (hiP p).2)).set (g := n2) (by omega) (by omega) 0 (.bool true))
            have q := ((HS3.out.2.1.putMo (by omega) (by omega) (hiP p)).putBg (by omega) (by omega) true)
            exact ⟨⟨r.ext, (by have := r.size; omega), (by rw [HSN.out, hF]; exact q)⟩, r.size, r.keep⟩

        | true =>
          obtain ⟨hRx, hSx, B9x, B10x⟩ := HS2.out
          obtain ⟨⟨x1, x2, x3, x4, x5⟩, ⟨y1, y2, y3, y4, y5⟩, z1, z2, z3⟩ := hSx
          obtain ⟨u1, u2, u3, u4, u5⟩ := B9x
          obtain ⟨t1, t2, t3, t4, t5⟩ := B10x
          clear hRx
          rw [hbg] at z1
          gi_wp2
          have hRo := (HS2.out.1.set (g := w.heap.size) (by omega) (by omega) 0 (.int .i64 (loP p).1)).set (g := w.heap.size) (by omega) (by omega) 1 (.int .i64 (loP p).2)
          have hSo := HS2.out.2.1.putLe (by omega) (by omega) (loP p)
          have hB9 := HS2.out.2.2.1.far e1 (.int .i64 (loP p).1) (.int .i64 (loP p).2)
          have hB10 := HS2.out.2.2.2.far e2 (.int .i64 (loP p).1) (.int .i64 (loP p).2)
          clear x1 x2 x3 x4 x5 y1 y2 y3 y4 y5 z1 z2 z3 u1 u2 u3 u4 u5 t1 t2 t3 t4 t5
          refine CallsIn.inRound _ (callsIn_wide.2 ((less_s HM.out.2.2 HM.out.1.2 _).mono ?_))
          rintro e A3 ⟨rfl, hE2⟩
          have HS3 := Lib.hid (And.intro (hRo.grow hE2) (And.intro (hSo.ext hE2) (And.intro (hB9.ext hE2) (hB10.ext hE2))))
          clear hE2
          clear hRo hSo hB9 hB10
          cases hl2 : lessB (hiP p) s.mo with
          | false =>
            obtain ⟨hRx, hSx, B9x, B10x⟩ := HS3.out
            obtain ⟨⟨x1, x2, x3, x4, x5⟩, ⟨y1, y2, y3, y4, y5⟩, z1, z2, z3⟩ := hSx
            obtain ⟨u1, u2, u3, u4, u5⟩ := B9x
            obtain ⟨t1, t2, t3, t4, t5⟩ := B10x
            clear hRx
            rw [hbg] at z1
            gi_wp2
            have hF : slowS s p = ⟨loP p, s.mo, true⟩ := by simp [slowS, *]
            have r := (HS3.out.1.set (g := n2) (by omega) (by omega) 0 (.bool true))
            have q := (HS3.out.2.1.putBg (by omega) (by omega) true)
            exact ⟨⟨r.ext, (by have := r.size; omega), (by rw [HSN.out, hF]; exact q)⟩, r.size, r.keep⟩
          | true =>
            obtain ⟨hRx, hSx, B9x, B10x⟩ := HS3.out
            obtain ⟨⟨x1, x2, x3, x4, x5⟩, ⟨y1, y2, y3, y4, y5⟩, z1, z2, z3⟩ := hSx
            obtain ⟨u1, u2, u3, u4, u5⟩ := B9x
            obtain ⟨t1, t2, t3, t4, t5⟩ := B10x
            clear hRx
            rw [hbg] at z1
            gi_wp2
            have hF : slowS s p = ⟨loP p, hiP p, true⟩ := by simp [slowS, *]
            have r := (((HS3.out.1.set (g := n1) (by omega) (by omega) 0 (.int .i64 (hiP p).1)).set (g := n1) (by omega) (by omega) 1 (.int .i64 (hiP p).2)).set (g := n2) (by omega) (by omega) 0 (.bool true))
            have q := ((HS3.out.2.1.putMo (by omega) (by omega) (hiP p)).putBg (by omega) (by omega) true)
            exact ⟨⟨r.ext, (by have := r.size; omega), (by rw [HSN.out, hF]; exact q)⟩, r.size, r.keep⟩


  · rintro W ⟨h1, h2, h3⟩ hlt hdf
    have hsm := small_slow items slow0 small_zero small_zero HPO.out
    change Small (slowL items).le ∧ Small (slowL items).mo at hsm
    obtain ⟨s, hsl⟩ : ∃ s, slowL items = s := ⟨_, rfl⟩
    rw [hsl] at hsm h3
    have HSL := Lib.hid hsl; clear hsl
    have HM := Lib.hid hsm; clear hsm hit HPO hS3
    have hnn : w.heap.size < w.heap.size + 1 ∧ w.heap.size + 1 < w.heap.size + 1 + 1 ∧ w.heap.size + 1 + 1 < w3.heap.size := by omega
    generalize w.heap.size + 1 + 1 = n2 at *
    generalize w.heap.size + 1 = n1 at *
    gi_wp2
    refine wpIn_wide.2 ?_
    have hD : DoneW w w3.heap.size w.heap.size n1 n2 s W := ⟨h1, hdf, h3⟩
    clear h1 hdf h3 hlt h2 hitm
    refine wp_region_T (R := fun x y => DoneW w w3.heap.size w.heap.size n1 n2 s x → DoneW w w3.heap.size w.heap.size n1 n2 s y) (DoneW w w3.heap.size w.heap.size n1 n2 s) [(0, 0), (1, 0), (2, 0), (3, 0), (4, 0), (5, 0), (6, 0), (7, 0), (8, 0)] (by kernel_rfl) (by kernel_rfl) (fun _ _ h k => h k) (hD.grow (Ext.refl _).drew) ?_
    iterate 9
      first
        | (apply wpT_no
           focus (simp only [List.getElem?_toArray, List.getElem?_cons_zero, List.getElem?_cons_succ]; rfl)
           focus rfl
           focus (simp only [Act.put, List.setIfInBounds_toArray, List.set_cons_zero, List.set_cons_succ]; rfl))
        | (apply wpT_ex
           focus (simp only [List.getElem?_toArray, List.getElem?_cons_zero, List.getElem?_cons_succ]; rfl)
           focus rfl
           focus
             intro w1 hC Ψ hΨ
             obtain ⟨⟨x1, x2, x3, x4, x5⟩, ⟨y1, y2, y3, y4, y5⟩, z1, z2, z3⟩ := hC.sw
             go_simp
             first
               | exact hΨ _ (fun h => h)
               | exact hΨ _ (fun h => h.putLe (by omega) (by omega) (by omega) (by omega))
               | exact hΨ _ (fun h => h.putMo (by omega) (by omega) (by omega) (by omega))
               | (go_at_call 51; refine (less_s HM.out.2 HM.out.1 _).mono ?_; rintro e w2 ⟨rfl, hE2⟩; exact ⟨_, rfl, hΨ _ (fun h => h.grow hE2)⟩)
           focus (simp only [Act.put, List.setIfInBounds_toArray, List.set_cons_zero, List.set_cons_succ]; rfl))
    refine wpT_nil ?_
    intro w1 hC
    obtain ⟨hE, hdf, hSW⟩ := hC
    gi_wp2
    refine ⟨by simp, .inl ⟨_, _, rfl, run_takeDeferred hdf, ?_⟩⟩
    have hP := hSW.putObj (k := w3.heap.size) (by omega) (by omega) (by omega) (.deferred none)
    have hEP : Ext w (w1.putObj w3.heap.size (.deferred none)) := ext_putObj_new hE (by omega)
    generalize w1.putObj w3.heap.size (.deferred none) = w9 at *
    obtain ⟨⟨x1, x2, x3, x4, x5⟩, ⟨y1, y2, y3, y4, y5⟩, z1, z2, z3⟩ := hP
    refine ⟨.tuple #[aggP s.le, aggP s.mo, .bool (!lessB s.mo s.le)], ?_, by rw [HSL.out], hEP⟩
    simp [results, Tryz.results30, go_sem, x1, x2, y1, y2, aggP]
end Go.Proofs.YtepaabbfindaeaaGreatDoor
namespace Go.Proofs.YtepaabbfindaeaaGreatDoor
open Go.RowKit

def AscA (l : List Arc) : Prop := l.Pairwise fun a b => a.r < b.r
theorem rngE_zero {lo hi a b : Int} : rngE lo hi a b = 0 ↔ a ≤ lo ∧ lo ≤ b ∧ a ≤ hi ∧ hi ≤ b ∧ lo ≤ hi := by
  unfold rngE
  by_cases h1 : a ≤ lo ∧ lo ≤ b
  · rw [if_neg (by simpa using h1)]
    by_cases h2 : a ≤ hi ∧ hi ≤ b
    · rw [if_neg (by simpa using h2)]
      by_cases h3 : hi < lo
      · rw [if_pos h3]; simp; omega
      · rw [if_neg h3]; simp; omega
    · rw [if_pos h2]; simp; omega
  · rw [if_pos h1]; simp; omega
theorem arcBad_zero {x : Arc} : arcBad x = 0 ↔ ArcOk x ∧ x.lo ≤ x.hi := by
  have h := rngE_zero (lo := x.lo) (hi := x.hi) (a := 0) (b := 1000000000000)
  simp only [arcBad, firstE, rgd, ArcOk]
  generalize rngE x.lo x.hi 0 1000000000000 = r at *
  by_cases h1 : 1 ≤ x.r ∧ x.r ≤ 100000
  · rw [show (decide (1 ≤ x.r) && decide (x.r ≤ 100000)) = true by simpa using h1]
    by_cases h2 : r = 0
    · have := h.1 h2
      simp [h2]; omega
    · have : ¬ (0 ≤ x.lo ∧ x.lo ≤ 1000000000000 ∧ 0 ≤ x.hi ∧ x.hi ≤ 1000000000000 ∧ x.lo ≤ x.hi) := fun k => h2 (h.2 k)
      simp [h2]; omega
  · rw [show (decide (1 ≤ x.r) && decide (x.r ≤ 100000)) = false by rw [← Bool.not_eq_true]; simpa using h1]
    simp
    omega
theorem ckArcs_ok : ∀ (l : List Arc) (i : Nat) (p : Option Int), (ckArcs i p l).2 = 0 → (∀ x ∈ l, ArcOk x ∧ x.lo ≤ x.hi) ∧ AscA l ∧ ∀ d, p = some d → ∀ x ∈ l, d < x.r
  | [], _, _, _ => ⟨by simp, List.Pairwise.nil, by simp⟩
  | x :: xs, i, p, h => by
    unfold ckArcs at h
    by_cases h1 : arcBad x ≠ 0
    · rw [if_pos h1] at h; exact absurd h h1
    rw [if_neg h1] at h
    have hx := arcBad_zero.1 (by simpa using h1)
    cases p with
    | none =>
      simp only [ordBad, Bool.false_eq_true, if_false] at h
      obtain ⟨k1, k2, k3⟩ := ckArcs_ok xs _ _ h
      exact ⟨by intro y hy; rcases List.mem_cons.1 hy with rfl | hy; exact hx; exact k1 y hy, List.Pairwise.cons (fun y hy => k3 x.r rfl y hy) k2, by simp⟩
    | some d =>
      by_cases h2 : x.r ≤ d
      · rw [if_pos (by simpa [ordBad] using h2)] at h; simp at h
      rw [if_neg (by simpa [ordBad] using h2)] at h
      obtain ⟨k1, k2, k3⟩ := ckArcs_ok xs _ _ h
      refine ⟨by intro y hy; rcases List.mem_cons.1 hy with rfl | hy; exact hx; exact k1 y hy, List.Pairwise.cons (fun y hy => k3 x.r rfl y hy) k2, ?_⟩
      rintro d' ⟨⟩ y hy
      rcases List.mem_cons.1 hy with rfl | hy
      · omega
      · have := k3 x.r rfl y hy; omega
structure ArcsOk (l : List Arc) : Prop where
  two : 2 ≤ l.length
  few : l.length ≤ 12
  ok : ∀ x ∈ l, ArcOk x ∧ x.lo ≤ x.hi
  asc : AscA l
theorem ckArcs_num : ∀ (l : List Arc) (i : Nat) (p : Option Int), (ckArcs i p l).2 = 0 → (ckArcs i p l).1 = 0
  | [], _, _, _ => rfl
  | x :: xs, i, p, h => by
    unfold ckArcs at h ⊢
    split at h
    · rename_i h1; exact absurd h h1
    · rename_i h1
      rw [if_neg h1]
      split at h
      · simp at h
      · rename_i h2
        rw [if_neg h2]
        exact ckArcs_num xs _ _ h
theorem ckA_ok {l : List Arc} (h : (ckA l).2 = 0) : ArcsOk l ∧ (ckA l).1 = 0 := by
  unfold ckA at h ⊢
  by_cases h0 : l.length < 2
  · rw [if_pos h0] at h; simp at h
  rw [if_neg h0] at h ⊢
  by_cases h1 : 12 < l.length
  · rw [if_pos h1] at h; simp at h
  rw [if_neg h1] at h ⊢
  obtain ⟨k1, k2, _⟩ := ckArcs_ok l _ _ h
  exact ⟨⟨by omega, by omega, k1, k2⟩, ckArcs_num l _ _ h⟩

theorem pairsTo_asc {l : List Arc} (h : AscA l) : ∀ k, k ≤ l.length → ∀ p ∈ pairsTo l k, p.1.r < p.2.r
  | 0, _ => by simp [pairsTo]
  | k + 1, hk => by
    intro p hp
    simp only [pairsTo, List.mem_append, List.mem_map] at hp
    rcases hp with hp | ⟨a, ha, rfl⟩
    · exact pairsTo_asc h k (by omega) p hp
    · obtain ⟨i, hi, rfl⟩ := List.mem_iff_getElem.1 ha
      have hik : i < k := by rw [List.length_take] at hi; omega
      rw [show l.getD k ⟨0, 0, 0⟩ = l[k] by simp [show k < l.length by omega], List.getElem_take]
      exact List.pairwise_iff_getElem.1 h i k (by omega) (by omega) hik
theorem slow_bg : ∀ (xs : List (Arc × Arc)) (s : Slow), s.bg = true → (xs.foldl slowS s).bg = true
  | [], _, h => h
  | p :: xs, s, _ => slow_bg xs (slowS s p) rfl
theorem slow_den : ∀ (xs : List (Arc × Arc)) (s : Slow), (s.bg = true → 1 ≤ s.le.2 ∧ 1 ≤ s.mo.2) → (∀ p ∈ xs, p.1.r < p.2.r) → (xs.foldl slowS s).bg = true → 1 ≤ (xs.foldl slowS s).le.2 ∧ 1 ≤ (xs.foldl slowS s).mo.2
  | [], _, h, _, hb => h hb
  | p :: xs, s, h, hx, hb => by
    have hp := hx p (by simp)
    refine slow_den xs (slowS s p) (fun _ => ?_) (fun q hq => hx q (by simp [hq])) hb
    unfold slowS
    dsimp only
    cases hbg : s.bg with
    | false => simp only [Bool.not_false, Bool.true_or, if_true, loP, hiP, wayP]; omega
    | true =>
      obtain ⟨h1, h2⟩ := h hbg
      simp only [Bool.not_true, Bool.false_or]
      constructor
      · split
        · simp only [loP, wayP]; omega
        · exact h1
      · split
        · simp only [hiP, wayP]; omega
        · exact h2
theorem slowL_den {l : List Arc} (h : ArcsOk l) : 1 ≤ (slowL (pairsTo l l.length)).le.2 ∧ 1 ≤ (slowL (pairsTo l l.length)).mo.2 := by
  refine slow_den _ _ (by simp [slow0]) (pairsTo_asc h.asc _ (Nat.le_refl _)) ?_
  have hp : pairsTo l 2 <+: pairsTo l l.length := pairsTo_prefix l h.two
  have h2 : pairsTo l 2 = [(l.getD 0 ⟨0, 0, 0⟩, l.getD 1 ⟨0, 0, 0⟩)] := by
    have := h.two
    obtain ⟨a, b, t, rfl⟩ : ∃ a b t, l = a :: b :: t := by
      match l, this with
      | a :: b :: t, _ => exact ⟨a, b, t, rfl⟩
    simp [pairsTo]
  obtain ⟨t, ht⟩ := hp
  rw [← ht, h2]
  exact slow_bg _ (slowS slow0 _) rfl

def perS (d : Int) : Int := 10000000 * d
theorem over_p (n d : Int) (w : World) (h1 : -200000 ≤ d) (h2 : d ≤ 200000) :
    Calls Tryz.prog 27 #[.agg #[.int .i64 n, .int .i64 d], .int .i64 10000000] w fun e w' => e = .returned (.agg #[.int .i64 (perS d), .int .i64 n]) ∧ Ext w w' :=
  over_c n d 10000000 w (by omega) (by omega)
theorem enc_p (n d : Int) (w : World) (h0 : 1 ≤ n) (h1 : -200000 ≤ d) (h2 : d ≤ 200000) :
    Calls Tryz.prog 28 #[.agg #[.int .i64 (perS d), .int .i64 n]] w fun e w' => e = .returned (.agg #[.int .i64 (enc (perS d, n)).1, .int .i64 (enc (perS d, n)).2]) ∧ Ext w w' :=
  enclosed_c (perS d) n w h0 (by unfold perS; omega) (by unfold perS; omega)
attribute [local irreducible] perS enc
def slowOf (l : List Arc) : Slow := slowL (pairsTo l l.length)
def speedR (l : List Arc) : (Int × Int) × Int :=
  if (ckA l).2 ≠ 0 then ((0, 0), (ckA l).2) else if lessB (slowOf l).mo (slowOf l).le = true then ((0, 0), 12) else if (slowOf l).le.1 ≤ 0 then ((0, 0), 11)
  else (((enc (perS (slowOf l).mo.2, (slowOf l).mo.1)).1, (enc (perS (slowOf l).le.2, (slowOf l).le.1)).2), 0)
theorem slow_spd {s : Slow} (h1 : 1 ≤ s.le.2) (h2 : 1 ≤ s.mo.2) (h3 : 1 ≤ s.le.1) (h4 : lessB s.mo s.le = false) : 1 ≤ s.mo.1 := by
  have h5 : ¬ (s.mo.1 * s.le.2 < s.le.1 * s.mo.2) := by simpa [lessB] using h4
  have h6 : 1 * 1 ≤ s.le.1 * s.mo.2 := Int.mul_le_mul h3 h2 (by omega) (by omega)
  by_cases h0 : 0 < s.mo.1
  · omega
  · have h : s.mo.1 ≤ 0 := by omega
    have := Int.mul_nonpos_of_nonpos_of_nonneg h (show 0 ≤ s.le.2 by omega)
    omega

set_option maxRecDepth 100000 in
set_option maxHeartbeats 2000000 in
theorem SpeedRange_c (l : List Arc) (A : Option Addr) (c : Nat) (w : World) (h : ArcsS w A l) (hc : l.length ≤ c) :
    Calls Tryz.prog 11 #[.slice A l.length c] w fun e w' => e = .returned (.tuple #[.agg #[.int .i64 (speedR l).1.1, .int .i64 (speedR l).1.2], .int .i64 (speedR l).2]) ∧ Ext w w' := by
  have ho := open_c l A c (w.alloc (.cells #[.int .i64 0, .int .i64 0] 34)) (h.ext ((Ext.refl w).alloc _))
  have HO := Lib.hid ho; clear ho
  by_cases he : (ckA l).2 = 0
  · have hok := (ckA_ok he).1
    have hz : speedR l = if lessB (slowOf l).mo (slowOf l).le = true then ((0, 0), 12) else if (slowOf l).le.1 ≤ 0 then ((0, 0), 11)
        else (((enc (perS (slowOf l).mo.2, (slowOf l).mo.1)).1, (enc (perS (slowOf l).le.2, (slowOf l).le.1)).2), 0) := by simp [speedR, he]
    rw [he] at HO
    obtain ⟨b, off, rfl, hbl, hR⟩ := h.resolve_left (fun e => by have := hok.two; rw [e] at this; simp at this)
    have hdn := slowL_den hok
    have hsm := small_slow (pairsTo l l.length) slow0 small_zero small_zero (pairsTo_ok (fun x hx => (hok.ok x hx).1) _ (Nat.le_refl _))
    have hsl : ∀ w' : World, Ext w w' → Calls Tryz.prog 30 #[.slice (some ⟨b, off, none⟩) l.length c] w' fun e w'' =>
        e = .returned (.tuple #[aggP (slowOf l).le, aggP (slowOf l).mo, .bool (!lessB (slowOf l).mo (slowOf l).le)]) ∧ Ext w' w'' :=
      fun w' hE => slowness_c l b off c w' (Nat.lt_of_lt_of_le hbl hE.size) (hR.ext hE) hok.few hc (fun x hx => (hok.ok x hx).1)
    change Small (slowOf l).le ∧ Small (slowOf l).mo at hsm
    change 1 ≤ (slowOf l).le.2 ∧ 1 ≤ (slowOf l).mo.2 at hdn
    clear hR
    generalize slowOf l = s at *
    simp only [aggP] at hsl
    have HSL := Lib.hid hsl; clear hsl
    have HZ := Lib.hid hz; clear hz
    obtain ⟨dn1, dn2⟩ := hdn
    obtain ⟨⟨s1, s2, s3, s4⟩, s5, s6, s7, s8⟩ := hsm
    have hE0 : Ext w (w.alloc (.cells #[.int .i64 0, .int .i64 0] 34)) := (Ext.refl w).alloc _
    have HE0 := Lib.hid hE0; clear hE0
    cases hp : lessB s.mo s.le with
    | true =>
      rw [hp] at HZ HSL
      go_enter Tryz.func11, Tryz.ntmps11
      go_wp2_with (first | (go_at_call 29; refine HO.out.mono ?_; go_must (rintro e W ⟨rfl, hE1⟩; have B := (Blk2.new w (.int .i64 0) (.int .i64 0) 34).ext hE1; obtain ⟨q1, q2, q3, q4, q5⟩ := B; have hE : Ext w W := HE0.out.trans hE1; have HE := Lib.hid hE; clear hE hE1)) | (go_at_call 30; refine (HSL.out _ HE.out).mono ?_; go_must (rintro e W2 ⟨rfl, hE2⟩; have B2 : Blk2 W2 w.heap.size (.int .i64 0) (.int .i64 0) := Blk2.ext ⟨q1, q2, q3, q4, q5⟩ hE2; clear q1 q2 q3 q4 q5; obtain ⟨q1, q2, q3, q4, q5⟩ := B2; have hE3 := HE.out.trans hE2; have HE3 := Lib.hid hE3; clear hE2 hE3)))
      rw [HZ.out]
      refine bodyPost_ret (v := .tuple #[.agg #[.int .i64 0, .int .i64 0], .int .i64 12]) (by simp [results, Tryz.results11, go_sem, World.cell?_alloc_lt, q1, q2, q5]) rfl ⟨rfl, ?_⟩
      exact ((set2 HE3.out (by simp) (by simp) _ _).alloc _).alloc _
    | false =>
      rw [hp] at HZ HSL
      by_cases h0 : s.le.1 ≤ 0
      · have hz : speedR l = ((0, 0), 11) := by rw [HZ.out]; simp [h0]
        have HZ2 := Lib.hid hz; clear hz
        go_enter Tryz.func11, Tryz.ntmps11
        go_wp2_with (first | (go_at_call 29; refine HO.out.mono ?_; go_must (rintro e W ⟨rfl, hE1⟩; have B := (Blk2.new w (.int .i64 0) (.int .i64 0) 34).ext hE1; obtain ⟨q1, q2, q3, q4, q5⟩ := B; have hE : Ext w W := HE0.out.trans hE1; have HE := Lib.hid hE; clear hE hE1)) | (go_at_call 30; refine (HSL.out _ HE.out).mono ?_; go_must (rintro e W2 ⟨rfl, hE2⟩; have B2 : Blk2 W2 w.heap.size (.int .i64 0) (.int .i64 0) := Blk2.ext ⟨q1, q2, q3, q4, q5⟩ hE2; clear q1 q2 q3 q4 q5; obtain ⟨q1, q2, q3, q4, q5⟩ := B2; have hE3 := HE.out.trans hE2; have HE3 := Lib.hid hE3; clear hE2 hE3)))
        rw [HZ2.out]
        refine bodyPost_ret (v := .tuple #[.agg #[.int .i64 0, .int .i64 0], .int .i64 11]) (by simp [results, Tryz.results11, go_sem, World.cell?_alloc_lt, q1, q2, q5]) rfl ⟨rfl, ?_⟩
        exact (((set2 HE3.out (by simp) (by simp) _ _).alloc _).alloc _)
      · have hz : speedR l = (((enc (perS s.mo.2, s.mo.1)).1, (enc (perS s.le.2, s.le.1)).2), 0) := by rw [HZ.out]; simp [h0]
        have HZ2 := Lib.hid hz; clear hz
        have k1 : 1 ≤ s.le.1 := by omega
        have k2 := slow_spd dn1 dn2 k1 hp
        go_enter Tryz.func11, Tryz.ntmps11
        go_wp2_with (first | (go_at_call 29; refine HO.out.mono ?_; go_must (rintro e W ⟨rfl, hE1⟩; have B := (Blk2.new w (.int .i64 0) (.int .i64 0) 34).ext hE1; obtain ⟨q1, q2, q3, q4, q5⟩ := B; have hE : Ext w W := HE0.out.trans hE1; have HE := Lib.hid hE; clear hE hE1)) | (go_at_call 30; refine (HSL.out _ HE.out).mono ?_; go_must (rintro e W2 ⟨rfl, hE2⟩; have B2 : Blk2 W2 w.heap.size (.int .i64 0) (.int .i64 0) := Blk2.ext ⟨q1, q2, q3, q4, q5⟩ hE2; clear q1 q2 q3 q4 q5; obtain ⟨q1, q2, q3, q4, q5⟩ := B2; have hE3 := HE.out.trans hE2; have HE3 := Lib.hid hE3; clear hE2 hE3)))
        have e3 : Ext W2 ((W2.alloc (.cells #[.int .i64 s.le.1, .int .i64 s.le.2] 69)).alloc (.cells #[.int .i64 s.mo.1, .int .i64 s.mo.2] 69)) := ((Ext.refl _).alloc _).alloc _
        have B6 : Blk2 ((W2.alloc (.cells #[.int .i64 s.le.1, .int .i64 s.le.2] 69)).alloc (.cells #[.int .i64 s.mo.1, .int .i64 s.mo.2] 69)) W2.heap.size (.int .i64 s.le.1) (.int .i64 s.le.2) := (Blk2.new W2 _ _ _).ext ((Ext.refl _).alloc _)
        have B7 := Blk2.new (W2.alloc (.cells #[.int .i64 s.le.1, .int .i64 s.le.2] 69)) (.int .i64 s.mo.1) (.int .i64 s.mo.2) 69
        simp only [World.size_alloc] at B7
        generalize (W2.alloc (.cells #[.int .i64 s.le.1, .int .i64 s.le.2] 69)).alloc (.cells #[.int .i64 s.mo.1, .int .i64 s.mo.2] 69) = W3 at *
        obtain ⟨p1, p2, _, _, _⟩ := B6
        obtain ⟨p3, p4, _, _, _⟩ := B7
        have B3 : Blk2 W3 w.heap.size (.int .i64 0) (.int .i64 0) := Blk2.ext ⟨q1, q2, q3, q4, q5⟩ e3
        have hE4 := HE3.out.trans e3
        have HE4 := Lib.hid hE4; clear hE4 q1 q2 q3 q4 q5 e3
        obtain ⟨⟨a1, a2⟩, ⟨b1, b2⟩, bg⟩ := s
        simp only at *
        refine wp_region_Tt (R := Ext) 9 (fun w' => Ext (W3) w') [(0, 0), (1, 0), (2, 0), (3, 0), (4, 0), (5, 0), (6, 0), (7, 0), (8, 0)] (by kernel_rfl) (by kernel_rfl) (fun _ _ h k => k.trans h) ((Ext.refl _).drew) ?_
        iterate 9
          first
            | (apply wpT_no
               focus (simp only [List.getElem?_toArray, List.getElem?_cons_zero, List.getElem?_cons_succ]; rfl)
               focus rfl
               focus (simp only [Act.put, List.setIfInBounds_toArray, List.set_cons_zero, List.set_cons_succ]; rfl))
            | (apply wpT_ex
               focus (simp only [List.getElem?_toArray, List.getElem?_cons_zero, List.getElem?_cons_succ]; rfl)
               focus rfl
               focus
                 intro w1 hC Ψ hΨ
                 have d1 := hC.cell p1
                 have d2 := hC.cell p2
                 have d3 := hC.cell p3
                 have d4 := hC.cell p4
                 go_simp; (try (go_bits; (try go_simp)))
                 first
                   | exact hΨ _ (Ext.refl _)
                   | (go_at_call 27; with_reducible refine (over_p b1 b2 _ s7 s8).mono ?_; rintro e w2 ⟨rfl, hE2⟩; exact ⟨_, rfl, hΨ _ hE2⟩)
                   | (go_at_call 27; with_reducible refine (over_p a1 a2 _ s3 s4).mono ?_; rintro e w2 ⟨rfl, hE2⟩; exact ⟨_, rfl, hΨ _ hE2⟩)
                   | (go_at_call 28; with_reducible refine (enc_p b1 b2 _ k2 s7 s8).mono ?_; rintro e w2 ⟨rfl, hE2⟩; exact ⟨_, rfl, hΨ _ hE2⟩)
                   | (go_at_call 28; with_reducible refine (enc_p a1 a2 _ k1 s3 s4).mono ?_; rintro e w2 ⟨rfl, hE2⟩; exact ⟨_, rfl, hΨ _ hE2⟩)
               focus (simp only [Act.put, List.setIfInBounds_toArray, List.set_cons_zero, List.set_cons_succ]; rfl))
        refine wpT_nil ?_
        intro w1 hC
        simp only [List.drop_succ_cons, List.drop_zero]
        obtain ⟨q1, q2, q3, q4, q5⟩ := B3.ext hC
        have HE5 := Lib.hid (HE4.out.trans hC); clear hC p1 p2 p3 p4
        go_wp2
        rw [HZ2.out]
        refine bodyPost_ret (v := .tuple #[.agg #[.int .i64 (enc (perS b2, b1)).1, .int .i64 (enc (perS a2, a1)).2], .int .i64 0]) (by simp [results, Tryz.results11, go_sem, q1, q2, q5]) rfl ⟨rfl, ?_⟩
        exact set2 HE5.out (by simp) (by simp) _ _
  · generalize hr : (ckA l).2 = r at *
    have hz : speedR l = ((0, 0), r) := by simp [speedR, hr, he]
    have HZ := Lib.hid hz; clear hz
    have hb : (r == 0) = false := by simpa using he
    have hE0 : Ext w (w.alloc (.cells #[.int .i64 0, .int .i64 0] 34)) := (Ext.refl w).alloc _
    have HE0 := Lib.hid hE0; clear hE0
    go_enter Tryz.func11, Tryz.ntmps11
    go_wp2_with (go_at_call 29; refine HO.out.mono ?_; go_must (rintro e W ⟨rfl, hE1⟩; have B := (Blk2.new w (.int .i64 0) (.int .i64 0) 34).ext hE1; obtain ⟨q1, q2, q3, q4, q5⟩ := B; have hE : Ext w W := HE0.out.trans hE1; have HE := Lib.hid hE; clear hE hE1))
    rw [HZ.out]
    refine bodyPost_ret (v := .tuple #[.agg #[.int .i64 0, .int .i64 0], .int .i64 r]) (by simp [results, Tryz.results11, go_sem, World.cell?_alloc_lt, q1, q2, q5]) rfl ⟨rfl, ?_⟩
    exact set2 HE.out (by simp) (by simp) _ _
end Go.Proofs.YtepaabbfindaeaaGreatDoor
