/- A range over a function whose rounds always go on, in the wide fence: one law for the caller, the iterator's contract as a predicate. Conditions: none. -/
import Derived.Test.YtgdcidbpadhkpaaRegIn
import Derived.RangeFuncLeaves
import Derived.RangeFuncBound
import Derived.Shelf.Abstract
set_option linter.unusedVariables false
set_option linter.unusedSimpArgs false
namespace Go.Proofs.Ytgdcidbpadhkpaa
open Go.RowKit Go.Shelf

section
variable {P : Program}

/-- The iterator's word: if the rounds go on, all items come, in their order; what it makes is its own; it needs of a round that it keeps what the iterator has made. -/
def Iter (P : Program) (gf : Nat) (first lb : Array Value) {α : Type} (encs : α → Array Value) (items : List α) (n₀ : Nat) (w : World) : Prop :=
  ∀ (m l : Nat) (J : List α → World → Prop) (W : World), Ext w W →
    (∀ s A B, J s A → Ext A B → J s B) →
    (∀ s A, J s A → ∀ g, g < n₀ → A.heap[g]? = W.heap[g]?) →
    (∀ pre x A, J pre A → (pre ++ [x]) <+: items → YieldAt Fence.wide m P l (encs x) A fun e B =>
      e = .returned (.bool true) ∧ J (pre ++ [x]) B ∧ A.heap.size ≤ B.heap.size ∧ ∀ g, W.heap.size ≤ g → g < A.heap.size → B.heap[g]? = A.heap[g]?) →
    J [] W →
    CallsIn Fence.wide (m + 1) P gf (first ++ #[.func (.yield l) #[] #[]] ++ lb) W fun e B => (∃ v, e = .returned v) ∧ J items B

/-- How a round ends: off its end, with the invariant; whatever lay from block n₁ on is as it was. -/
def roundEnd {α : Type} (I : List α → World → Prop) (xs : List α) (n₁ : Nat) (W : World) : Exit → Act → World → Prop
  | .normal, _, W' => I xs W' ∧ W.heap.size ≤ W'.heap.size ∧ ∀ g, n₁ ≤ g → g < W.heap.size → W'.heap[g]? = W.heap[g]?
  | _, _, _ => False

theorem ext_putObj_new {A : World} {k : Nat} {o : Obj} {w : World} (h : Ext w A) (hk : w.heap.size ≤ k) : Ext w (A.putObj k o) :=
  ⟨h.os, h.tape, h.output, by rw [World.putObj_size]; exact h.size, fun g hg => by rw [World.putObj_heap_other (by omega)]; exact h.block g hg⟩

theorem wpIn_range {α : Type} {g : Operand} {ps : Array Tmp} {assign body : Code} {Q : Exit → Act → World → Prop} {a : Act} {w : World} {n gf : Nat} {first lb : Array Value}
    (hg : a.eval g = .func (.func gf) first lb) (eg : ∀ args w, (callFunc gf args).run P w = .ok (.enter gf args) w) {encs : α → Array Value} {items : List α} {n₀ : Nat} (hn₀ : n₀ ≤ w.heap.size)
    (hit : Iter P gf first lb encs items n₀ w) (hps : ∀ x, (encs x).size = ps.size) (I : List α → World → Prop)
    (hE : ∀ s A B, I s A → Ext A B → I s B) (hP : ∀ s A k o, I s A → w.heap.size ≤ k → I s (A.putObj k o)) (hB : ∀ s A, I s A → ∀ g, g < n₀ → A.heap[g]? = w.heap[g]?) (h0 : I [] w)
    (hbody : ∀ (m : Nat) (pre : List α) (x : α) (W : World), I pre W → (pre ++ [x]) <+: items → w.heap.size + 2 ≤ W.heap.size →
      assign.wpIn (Fence.wide.inRound (w.heap.size + 1)) m P (Exit.then (fun a₁ W₁ => Ext W W₁ ∧ ∀ o, body.wpIn (Fence.wide.inRound (w.heap.size + 1)) m P (roundEnd I (pre ++ [x]) w.heap.size (W₁.putObj (w.heap.size + 1) o)) a₁ (W₁.putObj (w.heap.size + 1) o)) (fun _ _ _ => False))
        { tmps := (ps.zip (encs x)).foldl (fun t (p, v) => t.setIfInBounds p v) a.tmps, defers := [] } W)
    (hdone : ∀ W, I items W → w.heap.size < W.heap.size → W.heap[w.heap.size]? = some (.deferred (some [])) → Q .normal { a with defers := { target := .collected w.heap.size, args := #[] } :: a.defers } W) :
    (Code.rangeFunc g ps assign body).wpIn Fence.wide n P Q a w := by
  refine wpIn_rangeFunc ?_
  intro fn hfn
  obtain ⟨rec, hrec⟩ : ∃ rec : LoopState → Loop, rec = fun st => { state := st, pending := none, fn, tmps := a.tmps, params := ps, assign, body, defers := w.heap.size } := ⟨_, rfl⟩
  obtain ⟨W1, hW1⟩ : ∃ W1, (w.alloc (.deferred (some []))).alloc (.loop (rec .ready)) = W1 := ⟨_, rfl⟩
  have hL1 : W1.heap[w.heap.size + 1]? = some (.loop (rec .ready)) := by
    rw [← hW1]; have := World.alloc_heap_new (w.alloc (.deferred (some []))) (.loop (rec .ready)); rwa [World.size_alloc] at this
  have hK1 : W1.heap[w.heap.size]? = some (.deferred (some [])) := by
    rw [← hW1]; exact (Below.heap_alloc _ _ _ (by simp)).trans (World.alloc_heap_new w _)
  have hE1 : Ext w W1 := by rw [← hW1]; exact ((Ext.refl w).alloc _).alloc _
  have hs1 : W1.heap.size = w.heap.size + 2 := by rw [← hW1]; simp
  have hI1 : I [] W1 := hE _ _ _ h0 hE1
  refine ⟨w.heap.size + 1, [{ target := .collected w.heap.size, args := #[] }], W1, { target := .fn (.func gf) lb, args := first ++ #[.func (.yield (w.heap.size + 1)) #[] #[]] }, W1, gf,
    first ++ #[.func (.yield (w.heap.size + 1)) #[] #[]] ++ lb, W1, ?_, ?_, fun _ _ => trivial, ?_, fun h => (by simp [Fence.wide] at h), ?_⟩
  · rw [← hW1, hrec]; exact run_enterLoop_outer _ _ _ _ _
  · simp only [resolve, hg]
    simp [go_sem]
  · simp [invoke, go_sem, eg]
  · refine callsIn_wide.2 (callsIn_wide.1 ((hit 0 (w.heap.size + 1) (fun pre W => I pre W ∧ w.heap.size + 2 ≤ W.heap.size ∧ W.heap[w.heap.size + 1]? = some (.loop (rec .ready)) ∧ W.heap[w.heap.size]? = some (.deferred (some []))) W1 hE1 ?_ ?_ ?_ ⟨hI1, by omega, hL1, hK1⟩).mono ?_))
    · rintro s A B ⟨h1, h2, h3, h4⟩ hx
      exact ⟨hE _ _ _ h1 hx, Nat.le_trans h2 hx.size, hx.heap h3, hx.heap h4⟩
    · rintro s A ⟨h1, _⟩ k hk
      rw [hB _ _ h1 k hk, hE1.block k (by omega)]
    · rintro pre x W ⟨hi, hsz, hl, hk⟩ hpre
      have hy := run_yield (P := P) (args := encs x) hl (by rw [hrec]; exact hps x)
      rw [hrec] at hy
      refine ⟨fn, _, assign, body, hy, roundIn_of_wpIn hfn (wpIn_mono (hbody 0 pre x W hi hpre hsz) ?_)⟩
      rintro e a₁ W₁ h
      cases e with
      | normal =>
        obtain ⟨hx, hb⟩ := h
        have hl1 := hx.heap hl
        have hk1 := hx.heap hk
        have hlt : w.heap.size + 1 < W₁.heap.size := by have := hx.size; omega
        refine ⟨_, run_beginRound hl1 (by rw [hrec]), wpIn_mono (hb _) ?_⟩
        rintro e a₂ W₂ h2
        cases e with
        | normal =>
          obtain ⟨j1, j2, j3⟩ := h2
          rw [World.putObj_size] at j2 j3
          have hl2 := (j3 (w.heap.size + 1) (by omega) hlt).trans (World.putObj_heap_same hlt)
          have hk2 := (j3 w.heap.size (Nat.le_refl _) (by omega)).trans ((World.putObj_heap_other (by omega)).trans hk1)
          refine ⟨_, _, run_endRound none hl2, rfl, ⟨hP _ _ _ _ j1 (by omega), by rw [World.putObj_size]; omega, ?_, by rw [World.putObj_heap_other (by omega)]; exact hk2⟩, by rw [World.putObj_size]; have := hx.size; omega, ?_⟩
          · rw [World.putObj_heap_same (by omega), hrec]; rfl
          · intro k hk3 hk4
            have hx' := hx.block k hk4
            rw [World.putObj_heap_other (by omega), j3 k (by omega) (by have := hx.size; omega), World.putObj_heap_other (by omega), hx']
        | _ => exact h2.elim
      | _ => exact h.elim
    · rintro e W2 ⟨⟨v, rfl⟩, hi, hsz, hl, hk⟩
      exact ⟨none, _, by have := run_endLoop (P := P) hl (by rw [hrec]; simp); rw [hrec] at this; exact this,
        hdone _ (hP _ _ _ _ hi (by omega)) (by rw [World.putObj_size]; omega) ((World.putObj_heap_other (by omega)).trans hk)⟩
end
end Go.Proofs.Ytgdcidbpadhkpaa
