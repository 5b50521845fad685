/- Walks over the model itself. Conditions: none. -/
import Derived.OrdersIn
import Derived.TacticsIn
import Derived.RangeFuncNested
import Derived.RangeFuncLeaves
import Derived.RangeFuncBound
import Derived.Shelf.Abstract
import Derived.WalkKit
import Derived.WalkSpells
import Derived.Lib.Hide
import Derived.Deep.LoopGhost
import Derived.Deep.DeepMust
import Derived.Maps.AppendAt
import Derived.RangeFuncCalls
import Derived.Shelf.RegionOpen
import Derived.OwnWalkIn
import Derived.TacticsInMore
import Derived.LoopNIn
import Derived.LoopIn
import Derived.Test.YtgolkffigoabhaaRows
import Derived.Test.YtgolkffigoabhaaAmA
set_option linter.unusedVariables false
set_option linter.unusedSimpArgs false
namespace Go.Proofs.Ytgolkffigoabhaa
open Go.RowKit

section
variable {P : Program} {ops : Array Oper} {md : Region.Mode} {R : World → World → Prop}

theorem not_defer_of_yields {o : Oper} {a : Act} {w : World} {Ψ : Value → World → Prop} (h : yieldsC P o a w Ψ) : ∀ c, o.op ≠ .defer c := by
  intro c hc
  unfold yieldsC execOp at h
  rw [hc] at h
  simp only [Sem.run_bind] at h
  generalize (resolve a.eval c o.type).run P w = r at h
  cases r <;> simp [Result.andThen, yieldsUpon] at h

theorem wpIn_of_yieldsC {l n : Nat} {o : Oper} {a : Act} {w : World} {Ψ : Value → World → Prop} {K : Act → World → Prop} {Q : Exit → Act → World → Prop}
    (h : yieldsC P o a w Ψ) (hK : ∀ v w', Ψ v w' → K (a.put o.dst v) w') : o.wpIn (Fence.wide.inRound l) n P a w K Q := by
  refine ⟨fun _ _ => trivial, ?_⟩
  rw [Oper.semAt_eq _ _ _ (not_defer_of_yields h)]
  unfold yieldsC at h
  generalize (execOp a.eval o).run P w = r at *
  cases r with
  | ok n w' =>
    cases n <;> simp only [yieldsUpon] at h <;> simp only [Oper.uponIn]
    case value u => exact hK _ _ h
    case skip => exact hK _ _ h
    case enter f args => exact ⟨fun hd => by simp [Fence.wide] at hd, CallsIn.inRound l (callsIn_wide.2 (h.mono fun e w'' ⟨u, he, hu⟩ => by subst he; exact hK _ _ hu))⟩
  | halt x w' => simp only [yieldsUpon] at h

end
end Go.Proofs.Ytgolkffigoabhaa
namespace Go.Proofs.Ytgolkffigoabhaa
open Go.RowKit Go.Shelf

section
variable {P : Program}

/-- The iterator's word: if the rounds go on, all items come, in their order; what it makes is its own; it needs of a round that it keeps what the iterator has made. -/
def Iter (P : Program) (gf : Nat) (first lb : Array Value) {α : Type} (encs : α → Array Value) (items : List α) (n₀ : Nat) (w : World) : Prop :=
  ∀ (m l : Nat) (J : List α → World → Prop) (W : World), Ext w W →
    (∀ s A B, J s A → Ext A B → J s B) →
    (∀ s A, J s A → ∀ g, g < n₀ → A.heap[g]? = W.heap[g]?) →
    (∀ pre x A, J pre A → (pre ++ [x]) <+: items → YieldAt Fence.wide m P l (encs x) A fun e B =>
      e = .returned (.bool true) ∧ J (pre ++ [x]) B ∧ A.heap.size ≤ B.heap.size ∧ ∀ g, W.heap.size ≤ g → g < A.heap.size → B.heap[g]? = A.heap[g]?) →
    J [] W →
    CallsIn Fence.wide (m + 1) P gf (first ++ #[.func (.yield l) #[] #[]] ++ lb) W fun e B => (∃ v, e = .returned v) ∧ J items B

/-- How a round ends: off its end, with the invariant; whatever lay from block n₁ on is as it was. -/
def roundEnd {α : Type} (I : List α → World → Prop) (xs : List α) (n₁ : Nat) (W : World) : Exit → Act → World → Prop
  | .normal, _, W' => I xs W' ∧ W.heap.size ≤ W'.heap.size ∧ ∀ g, n₁ ≤ g → g < W.heap.size → W'.heap[g]? = W.heap[g]?
  | _, _, _ => False

theorem ext_putObj_new {A : World} {k : Nat} {o : Obj} {w : World} (h : Ext w A) (hk : w.heap.size ≤ k) : Ext w (A.putObj k o) :=
  ⟨h.os, h.tape, h.output, by rw [World.putObj_size]; exact h.size, fun g hg => by rw [World.putObj_heap_other (by omega)]; exact h.block g hg⟩

theorem wpIn_range {α : Type} {g : Operand} {ps : Array Tmp} {assign body : Code} {Q : Exit → Act → World → Prop} {a : Act} {w : World} {n gf : Nat} {first lb : Array Value}
    (hg : a.eval g = .func (.func gf) first lb) (eg : ∀ args w, (callFunc gf args).run P w = .ok (.enter gf args) w) {encs : α → Array Value} {items : List α} {n₀ : Nat} (hn₀ : n₀ ≤ w.heap.size)
    (hit : Iter P gf first lb encs items n₀ w) (hps : ∀ x, (encs x).size = ps.size) (I : List α → World → Prop)
    (hE : ∀ s A B, I s A → Ext A B → I s B) (hP : ∀ s A k o, I s A → w.heap.size ≤ k → I s (A.putObj k o)) (hB : ∀ s A, I s A → ∀ g, g < n₀ → A.heap[g]? = w.heap[g]?) (h0 : I [] w)
    (hbody : ∀ (m : Nat) (pre : List α) (x : α) (W : World), I pre W → (pre ++ [x]) <+: items → w.heap.size + 2 ≤ W.heap.size →
      assign.wpIn (Fence.wide.inRound (w.heap.size + 1)) m P (Exit.then (fun a₁ W₁ => Ext W W₁ ∧ ∀ o, body.wpIn (Fence.wide.inRound (w.heap.size + 1)) m P (roundEnd I (pre ++ [x]) w.heap.size (W₁.putObj (w.heap.size + 1) o)) a₁ (W₁.putObj (w.heap.size + 1) o)) (fun _ _ _ => False))
        { tmps := (ps.zip (encs x)).foldl (fun t (p, v) => t.setIfInBounds p v) a.tmps, defers := [] } W)
    (hdone : ∀ W, I items W → w.heap.size < W.heap.size → W.heap[w.heap.size]? = some (.deferred (some [])) → Q .normal { a with defers := { target := .collected w.heap.size, args := #[] } :: a.defers } W) :
    (Code.rangeFunc g ps assign body).wpIn Fence.wide n P Q a w := by
  refine wpIn_rangeFunc ?_
  intro fn hfn
  obtain ⟨rec, hrec⟩ : ∃ rec : LoopState → Loop, rec = fun st => { state := st, pending := none, fn, tmps := a.tmps, params := ps, assign, body, defers := w.heap.size } := ⟨_, rfl⟩
  obtain ⟨W1, hW1⟩ : ∃ W1, (w.alloc (.deferred (some []))).alloc (.loop (rec .ready)) = W1 := ⟨_, rfl⟩
  have hL1 : W1.heap[w.heap.size + 1]? = some (.loop (rec .ready)) := by
    rw [← hW1]; have := World.alloc_heap_new (w.alloc (.deferred (some []))) (.loop (rec .ready)); rwa [World.size_alloc] at this
  have hK1 : W1.heap[w.heap.size]? = some (.deferred (some [])) := by
    rw [← hW1]; exact (Below.heap_alloc _ _ _ (by simp)).trans (World.alloc_heap_new w _)
  have hE1 : Ext w W1 := by rw [← hW1]; exact ((Ext.refl w).alloc _).alloc _
  have hs1 : W1.heap.size = w.heap.size + 2 := by rw [← hW1]; simp
  have hI1 : I [] W1 := hE _ _ _ h0 hE1
  refine ⟨w.heap.size + 1, [{ target := .collected w.heap.size, args := #[] }], W1, { target := .fn (.func gf) lb, args := first ++ #[.func (.yield (w.heap.size + 1)) #[] #[]] }, W1, gf,
    first ++ #[.func (.yield (w.heap.size + 1)) #[] #[]] ++ lb, W1, ?_, ?_, fun _ _ => trivial, ?_, fun h => (by simp [Fence.wide] at h), ?_⟩
  · rw [← hW1, hrec]; exact run_enterLoop_outer _ _ _ _ _
  · simp only [resolve, hg]
    simp [go_sem]
  · simp [invoke, go_sem, eg]
  · refine callsIn_wide.2 (callsIn_wide.1 ((hit 0 (w.heap.size + 1) (fun pre W => I pre W ∧ w.heap.size + 2 ≤ W.heap.size ∧ W.heap[w.heap.size + 1]? = some (.loop (rec .ready)) ∧ W.heap[w.heap.size]? = some (.deferred (some []))) W1 hE1 ?_ ?_ ?_ ⟨hI1, by omega, hL1, hK1⟩).mono ?_))
    · rintro s A B ⟨h1, h2, h3, h4⟩ hx
      exact ⟨hE _ _ _ h1 hx, Nat.le_trans h2 hx.size, hx.heap h3, hx.heap h4⟩
    · rintro s A ⟨h1, _⟩ k hk
      rw [hB _ _ h1 k hk, hE1.block k (by omega)]
    · rintro pre x W ⟨hi, hsz, hl, hk⟩ hpre
      have hy := run_yield (P := P) (args := encs x) hl (by rw [hrec]; exact hps x)
      rw [hrec] at hy
      refine ⟨fn, _, assign, body, hy, roundIn_of_wpIn hfn (wpIn_mono (hbody 0 pre x W hi hpre hsz) ?_)⟩
      rintro e a₁ W₁ h
      cases e with
      | normal =>
        obtain ⟨hx, hb⟩ := h
        have hl1 := hx.heap hl
        have hk1 := hx.heap hk
        have hlt : w.heap.size + 1 < W₁.heap.size := by have := hx.size; omega
        refine ⟨_, run_beginRound hl1 (by rw [hrec]), wpIn_mono (hb _) ?_⟩
        rintro e a₂ W₂ h2
        cases e with
        | normal =>
          obtain ⟨j1, j2, j3⟩ := h2
          rw [World.putObj_size] at j2 j3
          have hl2 := (j3 (w.heap.size + 1) (by omega) hlt).trans (World.putObj_heap_same hlt)
          have hk2 := (j3 w.heap.size (Nat.le_refl _) (by omega)).trans ((World.putObj_heap_other (by omega)).trans hk1)
          refine ⟨_, _, run_endRound none hl2, rfl, ⟨hP _ _ _ _ j1 (by omega), by rw [World.putObj_size]; omega, ?_, by rw [World.putObj_heap_other (by omega)]; exact hk2⟩, by rw [World.putObj_size]; have := hx.size; omega, ?_⟩
          · rw [World.putObj_heap_same (by omega), hrec]; rfl
          · intro k hk3 hk4
            have hx' := hx.block k hk4
            rw [World.putObj_heap_other (by omega), j3 k (by omega) (by have := hx.size; omega), World.putObj_heap_other (by omega), hx']
        | _ => exact h2.elim
      | _ => exact h.elim
    · rintro e W2 ⟨⟨v, rfl⟩, hi, hsz, hl, hk⟩
      exact ⟨none, _, by have := run_endLoop (P := P) hl (by rw [hrec]; simp); rw [hrec] at this; exact this,
        hdone _ (hP _ _ _ _ hi (by omega)) (by rw [World.putObj_size]; omega) ((World.putObj_heap_other (by omega)).trans hk)⟩
end
end Go.Proofs.Ytgolkffigoabhaa
namespace Go.Proofs.Ytgolkffigoabhaa
open Go.RowKit

section
variable {P : Program} {ops : Array Oper} {md : Region.Mode}

def same (w w' : World) : Prop := w' = w

def wpOpY (P : Program) (ops : Array Oper) (i : Nat) (K : Act → World → Prop) (a : Act) (w : World) : Prop :=
  match ops[i]? with
  | none => False
  | some o => if Region.wanted o (yielded ops a.tmps) then yieldsC P o a w (fun v w' => K (a.put o.dst v) w') else K (a.put o.dst undef) w

def wpC (P : Program) (md : Region.Mode) (ops : Array Oper) (C : World → Prop) (F : Act → World → Prop) : Nat → Array Bool → Act → World → Prop
  | 0, listed, a, w => Region.ready md ops listed = [] ∧ F a w
  | f + 1, listed, a, w => (Region.ready md ops listed = [] → F a w) ∧ ∀ i ∈ Region.ready md ops listed, wpOpY P ops i (fun a' w' => C w' ∧ wpC P md ops C F f (listed.setIfInBounds i true) a' w') a w

theorem wpOpY_mono {i : Nat} {K K' : Act → World → Prop} {a : Act} {w : World} (h : ∀ a w, K a w → K' a w) (hh : wpOpY P ops i K a w) : wpOpY P ops i K' a w := by
  unfold wpOpY at *
  split
  · rename_i ho; simp only [ho] at hh
  · rename_i o ho
    simp only [ho] at hh
    split
    · rename_i hw; simp only [hw, if_true] at hh; exact yieldsC_mono hh fun v w' hk => h _ _ hk
    · rename_i hw; simp only [hw] at hh; exact h _ _ hh

theorem Exact.opY {C : World → Prop} {i : Nat} {oi : Oper} {v : Value} {a : Act} {w : World} {K : Act → World → Prop} (hi : ops[i]? = some oi) (hy : Exact P ops same C oi v a) (hC : C w) (h : K (a.put oi.dst v) w) : wpOpY P ops i K a w := by
  unfold wpOpY
  simp only [hi]
  rcases hy with ⟨hw, hy⟩ | ⟨hw, rfl⟩
  · simp only [hw, if_true]
    exact yieldsC_mono (hy w hC) fun u w' ⟨hu, hs⟩ => by subst hu; rw [show w' = w from hs]; exact h
  · simp only [hw, Bool.false_eq_true, if_false]
    exact h

theorem opY_put {j : Nat} {oi oj : Oper} {v : Value} {C : World → Prop} (hj : ops[j]? = some oj) (hap : oi.apart ops oj = true)
    (hsi : ∀ cs b, oi.op ≠ .select cs b) (hsj : ∀ cs b, oj.op ≠ .select cs b) {K : Act → World → Prop} {a : Act} {w : World}
    (hy : Exact P ops same C oi v a) (h : wpOpY P ops j K (a.put oi.dst v) w) :
    wpOpY P ops j (fun a' w' => Exact P ops same C oi v a' ∧ K (a'.put oi.dst v) w') a w := by
  obtain ⟨h1, h2, h3⟩ := Oper.apart_spec hap
  have keep : ∀ (a : Act), Exact P ops same C oi v a → ∀ u, Exact P ops same C oi v (a.put oj.dst u) := fun a hy u =>
    hy.of_same (execOp_put oi hsi a oj.dst u h3) (wanted_put oi a oj.dst u h3)
  unfold wpOpY at *
  simp only [hj] at *
  rw [wanted_put oj a oi.dst v h1] at h
  split
  · rename_i hw
    simp only [hw, if_true] at h
    refine yieldsC_congr (execOp_put oj hsj a oi.dst v h1).symm (yieldsC_mono h fun u w' hk => ⟨keep a hy u, ?_⟩)
    rw [← Act.put_comm a v u h2]
    exact hk
  · rename_i hw
    simp only [hw] at h
    exact ⟨keep a hy _, by rw [← Act.put_comm a v undef h2]; exact h⟩

theorem wpC_first {i : Nat} {oi : Oper} {v : Value} {C : World → Prop} {F : Act → World → Prop} (hi : ops[i]? = some oi) (hsel : ∀ (j : Nat) (o : Oper) cs b, ops[j]? = some o → o.op ≠ .select cs b) :
    ∀ (f : Nat) (listed : Array Bool) (a : Act) (w : World), C w →
      (∀ j oj, ops[j]? = some oj → j ≠ i → listed.getD j true = false → (∀ e ∈ oj.after, Region.binds md e = true → e.on ≠ i) → oi.apart ops oj = true) →
      i ∈ Region.ready md ops listed → Exact P ops same C oi v a →
      wpC P md ops C F f (listed.setIfInBounds i true) (a.put oi.dst v) w → wpC P md ops C F (f + 1) listed a w := by
  intro f
  induction f with
  | zero =>
    intro listed a w hC _ hr hy H
    refine ⟨fun h => (by rw [h] at hr; cases hr), fun j hj => ?_⟩
    by_cases hji : j = i
    · subst hji; exact hy.opY hi hC ⟨hC, H⟩
    · have := ready_mono hj hji
      rw [H.1] at this
      cases this
  | succ f ih =>
    intro listed a w hC hfree hr hy H
    have hun := (mem_ready.1 hr).1
    refine ⟨fun h => (by rw [h] at hr; cases hr), fun j hj => ?_⟩
    by_cases hji : j = i
    · subst hji; exact hy.opY hi hC ⟨hC, H⟩
    · have h1 := H.2 j (ready_mono hj hji)
      obtain ⟨hjun, oj, hoj, hall⟩ := mem_ready.1 hj
      have hnot : ∀ e ∈ oj.after, Region.binds md e = true → e.on ≠ i := fun e he hb heq => by
        have h1 := hall e he hb
        rw [heq, getD_both hun] at h1
        cases h1
      have h2 := opY_put hoj (hfree j oj hoj hji hjun hnot) (fun cs b => hsel i oi cs b hi) (fun cs b => hsel j oj cs b hoj) hy h1
      have hfree' : ∀ k ok, ops[k]? = some ok → k ≠ i → (listed.setIfInBounds j true).getD k true = false →
          (∀ e ∈ ok.after, Region.binds md e = true → e.on ≠ i) → oi.apart ops ok = true := fun k ok hk hki hun hno => by
        refine hfree k ok hk hki ?_ hno
        by_cases hjk : j = k
        · subst hjk; exact hjun
        · rw [getD_set_ne true hjk] at hun; exact hun
      refine wpOpY_mono (fun a' w' h3 => ⟨h3.2.1, ih (listed.setIfInBounds j true) a' w' h3.2.1 hfree' (ready_mono hr (Ne.symm hji)) h3.1 ?_⟩) h2
      rw [Array.setIfInBounds_comm _ _ hji]
      exact h3.2.2

/-- The operations of one value, in their order. -/
def wpE (P : Program) (ops : Array Oper) (C : World → Prop) (K : Act → Prop) : List Nat → Act → Prop
  | [], a => K a
  | i :: σ, a => match ops[i]? with
    | none => False
    | some o => if Region.wanted o (yielded ops a.tmps) then ∃ v, (∀ w, C w → yieldsC P o a w (fun u w' => u = v ∧ w' = w)) ∧ wpE P ops C K σ (a.put o.dst v)
      else wpE P ops C K σ (a.put o.dst undef)
theorem wpE_nil {C : World → Prop} {K : Act → Prop} {a : Act} (h : K a) : wpE P ops C K [] a := h
theorem wpE_ex {C : World → Prop} {K : Act → Prop} {a a' : Act} {i : Nat} {σ : List Nat} {o : Oper} {v : Value} (hi : ops[i]? = some o) (hw : Region.wanted o (yielded ops a.tmps) = true)
    (h : ∀ w, C w → ∀ Ψ : Value → World → Prop, Ψ v w → yieldsC P o a w Ψ) (ha : a.put o.dst v = a') (hr : wpE P ops C K σ a') : wpE P ops C K (i :: σ) a := by
  subst ha
  unfold wpE
  simp only [hi, hw, if_true]
  exact ⟨v, fun w hc => h w hc _ ⟨rfl, rfl⟩, hr⟩
theorem wpE_no {C : World → Prop} {K : Act → Prop} {a a' : Act} {i : Nat} {σ : List Nat} {o : Oper} (hi : ops[i]? = some o) (hw : Region.wanted o (yielded ops a.tmps) = false)
    (ha : a.put o.dst undef = a') (hr : wpE P ops C K σ a') : wpE P ops C K (i :: σ) a := by
  subst ha
  unfold wpE
  simp only [hi, hw, Bool.false_eq_true, if_false]
  exact hr

def orderE (md : Region.Mode) (ops : Array Oper) : List Nat → Array Bool → Bool
  | [], _ => true
  | i :: σ, listed => (Region.ready md ops listed).contains i && Region.free md ops listed i && orderE md ops σ (listed.setIfInBounds i true)
def listE : List Nat → Array Bool → Array Bool
  | [], listed => listed
  | i :: σ, listed => listE σ (listed.setIfInBounds i true)

theorem wpC_of_E {C : World → Prop} {F : Act → World → Prop} {K : Act → Prop} {g : Nat} {w : World} (hsel : Region.noSelect ops = true) (hC : C w) :
    ∀ (σ : List Nat) (listed : Array Bool) (a : Act), orderE md ops σ listed = true → (∀ a, K a → wpC P md ops C F g (listE σ listed) a w) → wpE P ops C K σ a →
      wpC P md ops C F (σ.length + g) listed a w
  | [], listed, a, _, hK, h => by rw [List.length_nil, Nat.zero_add]; exact hK a h
  | i :: σ, listed, a, hB, hK, h => by
    rw [List.length_cons, show σ.length + 1 + g = (σ.length + g) + 1 by omega]
    simp only [orderE, Bool.and_eq_true] at hB
    obtain ⟨⟨hr, hf⟩, hB'⟩ := hB
    have hr' : i ∈ Region.ready md ops listed := by simpa using hr
    unfold wpE at h
    cases ho : ops[i]? with
    | none => simp only [ho] at h
    | some o =>
      simp only [ho] at h
      by_cases hw : Region.wanted o (yielded ops a.tmps) = true
      · simp only [hw, if_true] at h
        obtain ⟨v, s1, s2⟩ := h
        exact wpC_first ho (Region.noSelect_spec hsel) _ _ _ _ hC (Region.free_spec ho hf) hr' (.inl ⟨hw, s1⟩) (wpC_of_E hsel hC σ _ _ hB' hK s2)
      · simp only [hw] at h
        have hw' : Region.wanted o (yielded ops a.tmps) = false := by simpa using hw
        exact wpC_first ho (Region.noSelect_spec hsel) _ _ _ _ hC (Region.free_spec ho hf) hr' (.inr ⟨hw', rfl⟩) (wpC_of_E hsel hC σ _ _ hB' hK h)

theorem wpC_mono {C : World → Prop} {F F' : Act → World → Prop} (hF : ∀ a w, F a w → F' a w) : ∀ (f : Nat) (listed : Array Bool) (a : Act) (w : World), wpC P md ops C F f listed a w → wpC P md ops C F' f listed a w
  | 0, _, _, _, h => ⟨h.1, hF _ _ h.2⟩
  | f + 1, _, _, _, h => ⟨fun h0 => hF _ _ (h.1 h0), fun i hi => wpOpY_mono (fun _ _ hk => ⟨hk.1, wpC_mono hF f _ _ _ hk.2⟩) (h.2 i hi)⟩

theorem wpAnyIn_of_C {fl fn : Nat} {C : World → Prop} {Q : Exit → Act → World → Prop} : ∀ (f : Nat) (listed : Array Bool) (a : Act) (w : World), wpC P md ops C (Q .normal) f listed a w → wpAnyIn (Fence.wide.inRound fl) fn P md ops Q f listed a w
  | 0, _, _, _, h => h
  | f + 1, listed, a, w, h => by
    refine ⟨h.1, fun i hi => ?_⟩
    have h1 := h.2 i hi
    unfold wpOpY at h1
    unfold wpOpIn
    cases ho : ops[i]? with
    | none => simp only [ho] at h1
    | some o =>
      simp only [ho] at h1 ⊢
      split
      · rename_i hwa
        simp only [hwa, if_true] at h1
        exact wpIn_of_yieldsC h1 fun v w' hk => wpAnyIn_of_C f _ _ _ hk.2
      · rename_i hwa
        simp only [hwa] at h1
        exact ⟨fun _ _ => trivial, wpAnyIn_of_C f _ _ _ h1.2⟩

/-- What is to be shown when the operations of one value are done: the rest, from this world on, ends with two values of its own making in the slots p and q; and the walk goes on with whatever two these are. -/
def twoE (P : Program) (ops : Array Oper) (C : World → Prop) (Q : Exit → Act → World → Prop) (w : World) (σ : List Nat) (p q : Nat) (a : Act) : Prop :=
  ∃ Ψ : Value → Value → World → Prop, wpC P .any ops C (fun a' w' => ∃ v v', a' = (a.put (some p) v).put (some q) v' ∧ Ψ v v' w') (ops.size - σ.length) (listE σ (Array.replicate ops.size false)) a w ∧
    ∀ v v' w', Ψ v v' w' → Q .normal ((a.put (some p) v).put (some q) v') w'

theorem wpIn_region_E2 {fl fn id : Nat} {Q : Exit → Act → World → Prop} {a : Act} {w : World} {l : List Oper} (C : World → Prop) (σ : List Nat) (p q : Nat) (hm : P.follows .mixedOrders = true) (hB : (Region.noSelect l.toArray && decide (σ.length ≤ l.toArray.size) && orderE .any l.toArray σ (Array.replicate l.toArray.size false)) = true)
    (hC : C w.drew) (h : wpE P l.toArray C (twoE P l.toArray C Q w.drew σ p q) σ a) : (Code.region id l.toArray true).wpIn (Fence.wide.inRound fl) fn P Q a w := by
  simp only [Bool.and_eq_true, decide_eq_true_eq] at hB
  obtain ⟨⟨hsel, hn⟩, hB⟩ := hB
  refine wpIn_region_any hm ?_
  have := wpC_of_E (F := Q .normal) (g := l.toArray.size - σ.length) hsel hC σ _ a hB (fun a ⟨Ψ, h1, h2⟩ => wpC_mono (fun a' w' ⟨v, v', e, hp⟩ => by subst e; exact h2 v v' w' hp) _ _ _ _ h1) h
  rw [show σ.length + (l.toArray.size - σ.length) = l.toArray.size by omega] at this
  exact wpAnyIn_of_C _ _ _ _ this

theorem wpC_one {C : World → Prop} {F : Act → World → Prop} {f i : Nat} {listed listed' : Array Bool} {a : Act} {w : World} {o : Oper} (hr : Region.ready md ops listed = [i]) (hi : ops[i]? = some o) (hw : Region.wanted o (yielded ops a.tmps) = true) (hl : listed.setIfInBounds i true = listed')
    (h : ∀ Ψ : Value → World → Prop, (∀ v w', C w' → wpC P md ops C F f listed' (a.put o.dst v) w' → Ψ v w') → yieldsC P o a w Ψ) : wpC P md ops C F (f + 1) listed a w := by
  subst hl
  refine ⟨fun h0 => (by rw [hr] at h0; cases h0), fun j hj => ?_⟩
  rw [hr] at hj
  have hj2 : j = i := by simpa using hj
  subst hj2
  unfold wpOpY
  simp only [hi, hw, if_true]
  exact h _ fun v w' hc hk => ⟨hc, hk⟩
theorem wpC_two {C : World → Prop} {F : Act → World → Prop} {f i j : Nat} {listed listed' listed'' : Array Bool} {a : Act} {w : World} {o o' : Oper} (hr : Region.ready md ops listed = [i, j]) (hi : ops[i]? = some o) (hj : ops[j]? = some o') (hw : Region.wanted o (yielded ops a.tmps) = true)
    (hw' : Region.wanted o' (yielded ops a.tmps) = true) (hl : listed.setIfInBounds i true = listed') (hl' : listed.setIfInBounds j true = listed'')
    (h : ∀ Ψ : Value → World → Prop, (∀ v w', C w' → wpC P md ops C F f listed' (a.put o.dst v) w' → Ψ v w') → yieldsC P o a w Ψ)
    (h' : ∀ Ψ : Value → World → Prop, (∀ v w', C w' → wpC P md ops C F f listed'' (a.put o'.dst v) w' → Ψ v w') → yieldsC P o' a w Ψ) : wpC P md ops C F (f + 1) listed a w := by
  subst hl; subst hl'
  refine ⟨fun h0 => (by rw [hr] at h0; cases h0), fun k hk => ?_⟩
  rw [hr] at hk
  have hk2 : k = i ∨ k = j := by simpa using hk
  rcases hk2 with rfl | rfl
  · unfold wpOpY
    simp only [hi, hw, if_true]
    exact h _ fun v w' hc hk => ⟨hc, hk⟩
  · unfold wpOpY
    simp only [hj, hw', if_true]
    exact h' _ fun v w' hc hk => ⟨hc, hk⟩
theorem wpC_done {C : World → Prop} {F : Act → World → Prop} {listed : Array Bool} {a : Act} {w : World} (hr : Region.ready md ops listed = []) (h : F a w) : ∀ f, wpC P md ops C F f listed a w
  | 0 => ⟨hr, h⟩
  | _ + 1 => ⟨fun _ => h, by rw [hr]; simp⟩
end
attribute [irreducible] wpE wpC
end Go.Proofs.Ytgolkffigoabhaa
namespace Go.Proofs.Ytgolkffigoabhaa
open Go.RowKit

def RowsR (w : World) (b off : Nat) (l : List (Int × Int)) : Prop :=
  ∀ i x, l[i]? = some x → w.cell? ⟨b, off + i * 2, none⟩ = some (.int .i64 x.1) ∧ w.cell? ⟨b, off + i * 2 + 1, none⟩ = some (.int .i64 x.2)
def RowsS (w : World) (A : Option Addr) (l : List (Int × Int)) : Prop := l = [] ∨ ∃ b off, A = some ⟨b, off, none⟩ ∧ b < w.heap.size ∧ RowsR w b off l
theorem RowsR.ext {w w' : World} {b off : Nat} {l : List (Int × Int)} (h : RowsR w b off l) (hE : Ext w w') : RowsR w' b off l :=
  fun i x hx => ⟨hE.cell (h i x hx).1, hE.cell (h i x hx).2⟩
theorem RowsS.ext {w w' : World} {A : Option Addr} {l : List (Int × Int)} (h : RowsS w A l) (hE : Ext w w') : RowsS w' A l :=
  h.imp id fun ⟨b, off, h1, h2, h3⟩ => ⟨b, off, h1, Nat.lt_of_lt_of_le h2 hE.size, h3.ext hE⟩
def IntsR (w : World) (b off : Nat) (l : List Int) : Prop := ∀ i x, l[i]? = some x → w.cell? ⟨b, off + i, none⟩ = some (.int .i64 x)
theorem IntsR.ext {w w' : World} {b off : Nat} {l : List Int} (h : IntsR w b off l) (hE : Ext w w') : IntsR w' b off l :=
  fun i x hx => hE.cell (h i x hx)

theorem within_c (n lo hi : Int) (w : World) :
    Calls Try.prog 25 #[.int .i64 n, .int .i64 lo, .int .i64 hi] w fun e w' => e = .returned (.bool (decide (lo ≤ n) && decide (n ≤ hi))) ∧ w = w' := by
  by_cases h1 : lo ≤ n <;> by_cases h2 : n ≤ hi
  all_goals
    go_enter Try.func25, Try.ntmps25
    go_wp2
    go_ret
    simp [h1, h2]

def rgd (b : Bool) : Int := if b then 0 else 2
theorem ranged_c (b : Bool) (w : World) :
    Calls Try.prog 60 #[.bool b] w fun e w' => e = .returned (.int .i64 (rgd b)) ∧ w = w' := by
  cases b
  all_goals
    go_enter Try.func60, Try.ntmps60
    go_wp2
    go_ret
    simp [rgd]
def echoE (n : Int) : Int := rgd (decide (1 ≤ n) && decide (n ≤ 1000000))
def firstE : List Int → Int
  | [] => 0
  | x :: xs => if x = 0 then firstE xs else x

set_option maxHeartbeats 400000 in
theorem first_c (l : List Int) (b off : Nat) (c : Nat) (w : World) (h : IntsR w b off l) (hl : l.length ≤ 1000) :
    Calls Try.prog 40 #[.slice (some ⟨b, off, none⟩) l.length c] w fun e w' => e = .returned (.int .i64 (firstE l)) ∧ w = w' := by
  go_enter Try.func40, Try.ntmps40
  go_wp2
  go_loop [4, 7] (fun _ i => ∃ k : Nat, k ≤ l.length ∧ i = .int .i64 k ∧ firstE l = firstE (l.drop k)) (fun _ i => l.length - (intOf i).toNat)
  case atStart => exact ⟨0, Nat.zero_le _, rfl, rfl⟩
  case round =>
    obtain ⟨k, hk, rfl, hf⟩ := hrel
    have HF := Lib.hid hf; clear hf
    by_cases hlt : k < l.length
    · have hcell := h k _ (List.getElem?_eq_getElem hlt)
      have hd : firstE (l.drop k) = if l[k] = 0 then firstE (l.drop (k+1)) else l[k] := by
        rw [List.drop_eq_getElem_cons hlt]; rfl
      have HD := Lib.hid hd; clear hd
      generalize l[k] = x at *
      by_cases h0 : x = 0
      · subst h0
        go_wp2
        go_round
        case rel => exact ⟨k + 1, by omega, by go_num, by rw [HF.out, HD.out]; simp⟩
        case measure => simp [intOf]; omega
      · have hb : (x == 0) = false := by simpa using h0
        go_wp2
        go_ret
        exact ⟨by rw [HF.out, HD.out, if_neg h0]; rfl, rfl⟩
    · go_wp2
      go_ret
      exact ⟨by rw [HF.out, List.drop_of_length_le (by omega)]; rfl, rfl⟩

def rowBad (x : Int × Int) : Int := firstE [rgd (decide (0 ≤ x.1) && decide (x.1 ≤ 100000)), echoE x.2]
def ordBad : Option Int → Int → Bool
  | some d, y => decide (y ≤ d)
  | none, _ => false
def ckFrom : Nat → Option Int → List (Int × Int) → Int × Int
  | _, _, [] => (0, 0)
  | i, p, x :: xs => if rowBad x ≠ 0 then (i, rowBad x) else if ordBad p x.1 = true then (i, 9) else ckFrom (i + 1) (some x.1) xs
def ckT (l : List (Int × Int)) : Int × Int := if l.length = 0 then (0, 10) else if 20 < l.length then (0, 8) else ckFrom 0 none l
def prevOf (l : List (Int × Int)) : Nat → Option Int
  | 0 => none
  | k + 1 => (l[k]?).map (·.1)

end Go.Proofs.Ytgolkffigoabhaa
namespace Go.Proofs.Ytgolkffigoabhaa
open Go.RowKit

theorem tdiv_floor (n d : Int) (hd : 1 ≤ d) : (n.tmod d < 0 → n.tdiv d - 1 = n / d) ∧ (¬ n.tmod d < 0 → n.tdiv d = n / d) := by
  have e : n.tmod d = n - d * n.tdiv d := by have := Int.mul_tdiv_add_tmod n d; omega
  have h1 : n.tmod d < d := Int.tmod_lt_of_pos n (by omega)
  have h2 : -d < n.tmod d := by
    have := Int.tmod_lt_of_pos (-n) (show 0 < d by omega)
    rw [Int.neg_tmod] at this; omega
  constructor
  · intro h
    have : n / d = n.tdiv d - 1 := by
      refine (Int.ediv_emod_unique (a := n) (b := d) (r := n.tmod d + d) (q := n.tdiv d - 1) (by omega)).2 ⟨?_, by omega, by omega⟩ |>.1
      rw [Int.mul_sub]; omega
    omega
  · intro h
    have : n / d = n.tdiv d := by
      refine (Int.ediv_emod_unique (a := n) (b := d) (r := n.tmod d) (q := n.tdiv d) (by omega)).2 ⟨?_, by omega, by omega⟩ |>.1
      omega
    omega

theorem div_bound (n d : Int) (hd : 1 ≤ d) (h1 : -9223372036854775807 ≤ n) (h2 : n ≤ 9223372036854775807) : -9223372036854775807 ≤ n / d ∧ n / d ≤ 9223372036854775807 := by
  constructor
  · exact (Int.le_ediv_iff_mul_le (by omega)).2 (by have : (-9223372036854775807) * d ≤ -9223372036854775807 := by omega
                                                    omega)
  · by_cases h : 0 ≤ n
    · have := Int.ediv_le_self d h; omega
    · have : n / d < 0 := Int.ediv_neg_of_neg_of_pos (by omega) (by omega); omega
theorem tdiv_bound (n d : Int) (hd : 1 ≤ d) (h1 : -9223372036854775807 ≤ n) (h2 : n ≤ 9223372036854775807) : -9223372036854775807 ≤ n.tdiv d ∧ n.tdiv d ≤ 9223372036854775807 := by
  have h := tdiv_floor n d hd
  have hb := div_bound n d hd h1 h2
  by_cases hm : n.tmod d < 0
  · have := h.1 hm
    have hn : n < 0 := by
      by_cases h : 0 ≤ n
      · have := Int.tmod_nonneg d h; omega
      · omega
    have hz : n.tdiv d ≤ 0 := by
      have := Int.tdiv_nonneg (a := -n) (b := d) (by omega) (by omega)
      rw [Int.neg_tdiv] at this; omega
    omega
  · have := h.2 hm; omega

set_option maxHeartbeats 400000 in
theorem floor_c (n d : Int) (w : World) (h0 : 1 ≤ d) (h1 : -9223372036854775807 ≤ n) (h2 : n ≤ 9223372036854775807) :
    Calls Try.prog 29 #[.int .i64 n, .int .i64 d] w fun e w' => e = .returned (.int .i64 (n / d)) ∧ w = w' := by
  have hf := tdiv_floor n d h0
  have HF := Lib.hid hf; clear hf
  have hb := tdiv_bound n d h0 h1 h2
  obtain ⟨b1, b2⟩ := hb
  have hb' := div_bound n d h0 h1 h2
  have HB := Lib.hid hb'; clear hb'
  by_cases hm : n.tmod d < 0
  · have e1 := HF.out.1 hm
    have E1 := Lib.hid e1
    have e2 : -9223372036854775807 ≤ n.tdiv d - 1 := by have := HB.out; omega
    clear e1
    go_enter Try.func29, Try.ntmps29
    go_wp2
    go_ret
    exact ⟨by rw [← E1.out]; rfl, rfl⟩
  · have e1 := HF.out.2 hm
    have E1 := Lib.hid e1
    clear e1
    go_enter Try.func29, Try.ntmps29
    go_wp2
    go_ret
    exact ⟨by rw [← E1.out]; rfl, rfl⟩
def ceD (n d : Int) : Int := -((-n) / d)
set_option maxHeartbeats 400000 in
theorem ceil_c (n d : Int) (w : World) (h0 : 1 ≤ d) (h1 : -9223372036854775807 ≤ n) (h2 : n ≤ 9223372036854775807) :
    Calls Try.prog 30 #[.int .i64 n, .int .i64 d] w fun e w' => e = .returned (.int .i64 (ceD n d)) ∧ w = w' := by
  obtain ⟨b1, b2⟩ := div_bound (-n) d h0 (by omega) (by omega)
  go_enter Try.func30, Try.ntmps30
  go_wp2_with (first | (go_at_call 29; refine (floor_c _ _ _ h0 (by omega) (by omega)).mono ?_; rintro e w' ⟨rfl, rfl⟩))
  go_ret
  exact ⟨rfl, rfl⟩
def enc (s : Int × Int) : Int × Int := (s.1 / s.2, ceD s.1 s.2)
set_option maxRecDepth 100000 in
set_option maxHeartbeats 1000000 in
theorem enclosed_c (n d : Int) (w : World) (h0 : 1 ≤ d) (h1 : -9223372036854775807 ≤ n) (h2 : n ≤ 9223372036854775807) :
    Calls Try.prog 34 #[.agg #[.int .i64 n, .int .i64 d]] w fun e w' => e = .returned (.agg #[.int .i64 (enc (n, d)).1, .int .i64 (enc (n, d)).2]) ∧ Ext w w' := by
  go_enter Try.func34, Try.ntmps34
  go_wp2
  generalize hW : (w.alloc (Obj.cells #[Value.int IntKind.i64 n, Value.int IntKind.i64 d] 65)).alloc (Obj.cells #[Value.int IntKind.i64 0, Value.int IntKind.i64 0] 27) = W
  have e1 : W.cell? ⟨w.heap.size, 0, none⟩ = some (.int .i64 n) := by subst hW; simp
  have e2 : W.cell? ⟨w.heap.size, 1, none⟩ = some (.int .i64 d) := by subst hW; simp
  have HW := Lib.hid hW; clear hW
  have e3 : W.cell? ⟨w.heap.size + 1, 0, none⟩ = some (.int .i64 0) := by rw [← HW.out]; simp
  have e4 : W.cell? ⟨w.heap.size + 1, 1, none⟩ = some (.int .i64 0) := by rw [← HW.out]; simp
  have z1 : w.heap.size + 1 < W.heap.size := by rw [← HW.out]; simp
  have f3 : W.frozen? ⟨w.heap.size + 1, 0, none⟩ = false := by rw [← HW.out]; simp
  have f4 : W.frozen? ⟨w.heap.size + 1, 1, none⟩ = false := by rw [← HW.out]; simp
  refine wp_region_Tt (R := Ext) 11 (fun w' => Ext (W) w') [(0, 0), (1, 0), (2, 0), (3, 0), (4, 0), (5, 0), (6, 0), (7, 0), (8, 0), (9, 0), (10, 0)] (by kernel_rfl) (by kernel_rfl) (fun _ _ h k => k.trans h) ((Ext.refl _).drew) ?_
  iterate 11
    first
      | (apply wpT_no
         focus (simp only [List.getElem?_toArray, List.getElem?_cons_zero, List.getElem?_cons_succ]; rfl)
         focus rfl
         focus (simp only [Act.put, List.setIfInBounds_toArray, List.set_cons_zero, List.set_cons_succ]; rfl))
      | (apply wpT_ex
         focus (simp only [List.getElem?_toArray, List.getElem?_cons_zero, List.getElem?_cons_succ]; rfl)
         focus rfl
         focus
           intro w1 hC Ψ hΨ
           have d1 := hC.cell e1
           have d2 := hC.cell e2
           go_simp; (try (go_bits; (try go_simp)))
           first
             | exact hΨ _ (Ext.refl _)
             | (go_at_call 29; refine (floor_c _ _ _ (by assumption) (by assumption) (by assumption)).mono ?_; rintro e w2 ⟨rfl, rfl⟩; exact ⟨_, rfl, hΨ _ (Ext.refl _)⟩)
             | (go_at_call 30; refine (ceil_c _ _ _ (by assumption) (by assumption) (by assumption)).mono ?_; rintro e w2 ⟨rfl, rfl⟩; exact ⟨_, rfl, hΨ _ (Ext.refl _)⟩)
         focus (simp only [Act.put, List.setIfInBounds_toArray, List.set_cons_zero, List.set_cons_succ]; rfl))
  refine wpT_nil ?_
  intro w1 hC
  simp only [List.drop_succ_cons, List.drop_zero]
  have c3 := hC.cell e3
  have c4 := hC.cell e4
  have g3 := hC.fz z1 f3
  have g4 := hC.fz z1 f4
  have HC := Lib.hid hC; clear hC e1 e2 e3 e4 f3 f4
  go_wp2
  refine bodyPost_ret (v := .agg #[.int .i64 (enc (n, d)).1, .int .i64 (enc (n, d)).2]) (by simp [results, Try.results34, go_sem, c3, c4, enc]) rfl ⟨rfl, ?_⟩
  have hE0 : Ext w W := by rw [← HW.out]; exact ((Ext.refl w).alloc _).alloc _
  refine Ext.set (Ext.set (hE0.trans HC.out) ?_ _) ?_ _ <;> (first | omega | (simp; done) | (simp; omega))

set_option maxHeartbeats 1000000 in
theorem over_c (n d m : Int) (w : World) (h1 : -9223372036854775807 ≤ m * d) (h2 : m * d ≤ 9223372036854775807) :
    Calls Try.prog 33 #[.agg #[.int .i64 n, .int .i64 d], .int .i64 m] w fun e w' => e = .returned (.agg #[.int .i64 (m * d), .int .i64 n]) ∧ Ext w w' := by
  go_enter Try.func33, Try.ntmps33
  go_wp2
  refine bodyPost_ret (v := .agg #[.int .i64 (m * d), .int .i64 n]) (by simp [results, Try.results33, go_sem]) rfl ⟨rfl, ?_⟩
  exact ((Ext.refl w).alloc _).alloc _

def RowOk (x : Int × Int) : Prop := 0 ≤ x.1 ∧ x.1 ≤ 100000 ∧ 1 ≤ x.2 ∧ x.2 ≤ 1000000
end Go.Proofs.Ytgolkffigoabhaa
namespace Go.Proofs.Ytgolkffigoabhaa
open Go.RowKit

theorem rowBad_zero {x : Int × Int} : rowBad x = 0 ↔ RowOk x := by
  simp only [rowBad, firstE, echoE]
  by_cases h1 : (decide (0 ≤ x.1) && decide (x.1 ≤ 100000)) = true <;> by_cases h2 : (decide (1 ≤ x.2) && decide (x.2 ≤ 1000000)) = true
  all_goals (simp [rgd, h1, h2, RowOk]; simp at h1 h2; omega)
def Asc (l : List (Int × Int)) : Prop := l.Pairwise fun a b => a.1 < b.1
theorem ckFrom_ok : ∀ (l : List (Int × Int)) (i : Nat) (p : Option Int), (ckFrom i p l).2 = 0 → (∀ x ∈ l, RowOk x) ∧ Asc l ∧ ∀ d, p = some d → ∀ x ∈ l, d < x.1
  | [], _, _, _ => ⟨by simp, List.Pairwise.nil, by simp⟩
  | x :: xs, i, p, h => by
    unfold ckFrom at h
    by_cases h1 : rowBad x ≠ 0
    · rw [if_pos h1] at h; exact absurd h h1
    rw [if_neg h1] at h
    have hx : RowOk x := rowBad_zero.1 (by simpa using h1)
    cases p with
    | none =>
      simp only [ordBad, Bool.false_eq_true, if_false] at h
      obtain ⟨k1, k2, k3⟩ := ckFrom_ok xs _ _ h
      exact ⟨by intro y hy; rcases List.mem_cons.1 hy with rfl | hy; exact hx; exact k1 y hy, List.Pairwise.cons (fun y hy => k3 x.1 rfl y hy) k2, by simp⟩
    | some d =>
      by_cases h2 : x.1 ≤ d
      · rw [if_pos (by simpa [ordBad] using h2)] at h; simp at h
      rw [if_neg (by simpa [ordBad] using h2)] at h
      obtain ⟨k1, k2, k3⟩ := ckFrom_ok xs _ _ h
      refine ⟨by intro y hy; rcases List.mem_cons.1 hy with rfl | hy; exact hx; exact k1 y hy, List.Pairwise.cons (fun y hy => k3 x.1 rfl y hy) k2, ?_⟩
      rintro d' ⟨⟩ y hy
      rcases List.mem_cons.1 hy with rfl | hy
      · omega
      · have := k3 x.1 rfl y hy; omega
structure TabOk (l : List (Int × Int)) : Prop where
  pos : 0 < l.length
  few : l.length ≤ 20
  row : ∀ x ∈ l, RowOk x
  asc : Asc l
theorem TabOk.get {l : List (Int × Int)} (h : TabOk l) {i : Nat} (hi : i < l.length) : RowOk l[i] := h.row _ (List.getElem_mem hi)
theorem TabOk.lt {l : List (Int × Int)} (h : TabOk l) {i j : Nat} (hj : j < l.length) (hij : i < j) : l[i].1 < l[j].1 := List.pairwise_iff_getElem.1 h.asc i j (by omega) hj hij

theorem set2 {w W : World} (h : Ext w W) {a b : Addr} (ha : w.heap.size ≤ a.block) (hb : w.heap.size ≤ b.block) (u v : Value) : Ext w ((W.setCell a u).setCell b v) := (h.set ha _).set hb _

end Go.Proofs.Ytgolkffigoabhaa
namespace Go.Proofs.Ytgolkffigoabhaa
open Go.RowKit

theorem first2_c (a b : Int) (g : Nat) (w : World) (h0 : w.cell? ⟨g, 0, none⟩ = some (.int .i64 a)) (h1 : w.cell? ⟨g, 1, none⟩ = some (.int .i64 b)) :
    Calls Try.prog 40 #[.slice (some ⟨g, 0, none⟩) 2 2] w fun e w' => e = .returned (.int .i64 (firstE [a, b])) ∧ w = w' := by
  refine first_c [a, b] g 0 2 w (fun i x hx => ?_) (by simp)
  rcases i with _ | _ | i
  · injection hx with hx; subst hx; exact h0
  · injection hx with hx; subst hx; exact h1
  · cases hx
end Go.Proofs.Ytgolkffigoabhaa
namespace Go.Proofs.Ytgolkffigoabhaa
open Go.RowKit

end Go.Proofs.Ytgolkffigoabhaa
namespace Go.Proofs.Ytgolkffigoabhaa
open Go.RowKit

def nats (xs : List Nat) : List Value := xs.map fun (n : Nat) => Value.int .i64 (n : Int)
/-- Block g is these numbers, and may be written. -/
def NBlk (w : World) (g : Nat) (xs : List Nat) : Prop := w.heap[g]? = some (.cells (nats xs).toArray 3 (0, 0))
theorem NBlk.lt {w : World} {g : Nat} {xs : List Nat} (h : NBlk w g xs) : g < w.heap.size := by
  rcases Nat.lt_or_ge g w.heap.size with hl | hl
  · exact hl
  · unfold NBlk at h; rw [Array.getElem?_eq_none hl] at h; cases h
theorem NBlk.ext {w w' : World} {g : Nat} {xs : List Nat} (h : NBlk w g xs) (hE : Ext w w') : NBlk w' g xs := hE.heap h
theorem NBlk.cell {w : World} {g : Nat} {xs : List Nat} (h : NBlk w g xs) {i : Nat} (hi : i < xs.length) : w.cell? ⟨g, i, none⟩ = some (.int .i64 (xs[i] : Int)) := by
  unfold NBlk at h
  rw [cell_of_row w g i _ 3 (0, 0) h]
  simp [nats, hi]
theorem NBlk.put {w : World} {g : Nat} {xs : List Nat} (h : NBlk w g xs) (i v : Nat) : NBlk (w.setCell ⟨g, i, none⟩ (.int .i64 (v : Int))) g (xs.set i v) := by
  unfold NBlk at h ⊢
  rw [heap_setCell_same w g i _ 3 _ h]
  simp [nats, List.map_set]
theorem NBlk.far {w : World} {g : Nat} {xs : List Nat} (h : NBlk w g xs) {p : Addr} (hp : g ≠ p.block) (u : Value) : NBlk (w.setCell p u) g xs := (heap_setCell_other w p g u hp).trans h
theorem NBlk.alloc {w : World} {g : Nat} {xs : List Nat} (h : NBlk w g xs) (o : Obj) : NBlk (w.alloc o) g xs := h.ext ((Ext.refl w).alloc o)
end Go.Proofs.Ytgolkffigoabhaa
namespace Go.Proofs.Ytgolkffigoabhaa
open Go.RowKit

structure Arc where
  r : Int
  lo : Int
  hi : Int

def ArcsR (w : World) (b off : Nat) (l : List Arc) : Prop :=
  ∀ i x, l[i]? = some x → w.cell? ⟨b, off + i * 3, none⟩ = some (.int .i64 x.r) ∧ w.cell? ⟨b, off + i * 3 + 1, none⟩ = some (.int .i64 x.lo) ∧ w.cell? ⟨b, off + i * 3 + 2, none⟩ = some (.int .i64 x.hi)
def ArcsS (w : World) (A : Option Addr) (l : List Arc) : Prop := l = [] ∨ ∃ b off, A = some ⟨b, off, none⟩ ∧ b < w.heap.size ∧ ArcsR w b off l
theorem ArcsR.ext {w w' : World} {b off : Nat} {l : List Arc} (h : ArcsR w b off l) (hE : Ext w w') : ArcsR w' b off l :=
  fun i x hx => ⟨hE.cell (h i x hx).1, hE.cell (h i x hx).2.1, hE.cell (h i x hx).2.2⟩
theorem ArcsS.ext {w w' : World} {A : Option Addr} {l : List Arc} (h : ArcsS w A l) (hE : Ext w w') : ArcsS w' A l :=
  h.imp id fun ⟨b, off, h1, h2, h3⟩ => ⟨b, off, h1, Nat.lt_of_lt_of_le h2 hE.size, h3.ext hE⟩

theorem isTime_c (n : Int) (w : World) :
    Calls Try.prog 63 #[.int .i64 n] w fun e w' => e = .returned (.bool (decide (0 ≤ n) && decide (n ≤ 1000000000000))) ∧ w = w' := by
  go_enter Try.func63, Try.ntmps63
  go_wp2_with (go_at_call 25; refine (within_c _ _ _ _).mono ?_; rintro e w' ⟨rfl, rfl⟩)
  go_ret
  exact ⟨rfl, rfl⟩

/-- The error of a range whose ends must be from a to b. -/
def rngE (lo hi a b : Int) : Int := if ¬ (a ≤ lo ∧ lo ≤ b) then 2 else if ¬ (a ≤ hi ∧ hi ≤ b) then 2 else if hi < lo then 9 else 0


theorem isTime_b (n : Int) (p : Bool) (w : World) (h : (decide (0 ≤ n) && decide (n ≤ 1000000000000)) = p) :
    Calls Try.prog 63 #[.int .i64 n] w fun e w' => e = .returned (.bool p) ∧ w = w' := by
  have hc := isTime_c n w
  rw [h] at hc
  exact hc
set_option maxHeartbeats 1000000 in
theorem range_isTime_c (lo hi : Int) (w : World) :
    Calls Try.prog 64 #[.agg #[.int .i64 lo, .int .i64 hi], .func (.func 63) #[] #[]] w fun e w' => e = .returned (.int .i64 (rngE lo hi (0) 1000000000000)) ∧ Ext w w' := by
  obtain ⟨p, hp⟩ : ∃ p, (decide (0 ≤ lo) && decide (lo ≤ 1000000000000)) = p := ⟨_, rfl⟩
  obtain ⟨q, hq⟩ : ∃ q, (decide (0 ≤ hi) && decide (hi ≤ 1000000000000)) = q := ⟨_, rfl⟩
  have hz : rngE lo hi (0) 1000000000000 = if p = false then 2 else if q = false then 2 else if hi < lo then 9 else 0 := by
    simp only [rngE, ← hp, ← hq, Bool.and_eq_false_iff, decide_eq_false_iff_not]
    by_cases h1 : 0 ≤ lo <;> by_cases h2 : lo ≤ 1000000000000 <;> by_cases h3 : 0 ≤ hi <;> by_cases h4 : hi ≤ 1000000000000 <;> simp [h1, h2, h3, h4]
  have HP := Lib.hid hp; clear hp
  have HQ := Lib.hid hq; clear hq
  have HZ := Lib.hid hz; clear hz
  cases p with
  | false =>
    have hz : rngE lo hi (0) 1000000000000 = 2 := by rw [HZ.out]; simp
    have HZ2 := Lib.hid hz; clear hz
    go_enter Try.func64, Try.ntmps64
    go_wp2_with (first | (go_at_call 63; (with_reducible refine (isTime_b lo false _ HP.out).mono ?_); rintro e9 w9 ⟨rfl, rfl⟩) | (go_at_call 63; (with_reducible refine (isTime_b hi q _ HQ.out).mono ?_); rintro e9 w9 ⟨rfl, rfl⟩))
    go_ret
    exact ⟨by rw [HZ2.out]; rfl, (Ext.refl _).alloc _⟩
  | true =>
    cases q with
    | false =>
      have hz : rngE lo hi (0) 1000000000000 = 2 := by rw [HZ.out]; simp
      have HZ2 := Lib.hid hz; clear hz
      go_enter Try.func64, Try.ntmps64
      go_wp2_with (first | (go_at_call 63; (with_reducible refine (isTime_b lo true _ HP.out).mono ?_); rintro e9 w9 ⟨rfl, rfl⟩) | (go_at_call 63; (with_reducible refine (isTime_b hi false _ HQ.out).mono ?_); rintro e9 w9 ⟨rfl, rfl⟩))
      go_ret
      exact ⟨by rw [HZ2.out]; rfl, (Ext.refl _).alloc _⟩
    | true =>
      by_cases hl : hi < lo
      · have hz : rngE lo hi (0) 1000000000000 = 9 := by rw [HZ.out]; simp [hl]
        have HZ2 := Lib.hid hz; clear hz
        go_enter Try.func64, Try.ntmps64
        go_wp2_with (first | (go_at_call 63; (with_reducible refine (isTime_b lo true _ HP.out).mono ?_); rintro e9 w9 ⟨rfl, rfl⟩) | (go_at_call 63; (with_reducible refine (isTime_b hi true _ HQ.out).mono ?_); rintro e9 w9 ⟨rfl, rfl⟩))
        go_ret
        exact ⟨by rw [HZ2.out]; rfl, (Ext.refl _).alloc _⟩
      · have hz : rngE lo hi (0) 1000000000000 = 0 := by rw [HZ.out]; simp [hl]
        have HZ2 := Lib.hid hz; clear hz
        go_enter Try.func64, Try.ntmps64
        go_wp2_with (first | (go_at_call 63; (with_reducible refine (isTime_b lo true _ HP.out).mono ?_); rintro e9 w9 ⟨rfl, rfl⟩) | (go_at_call 63; (with_reducible refine (isTime_b hi true _ HQ.out).mono ?_); rintro e9 w9 ⟨rfl, rfl⟩))
        go_ret
        exact ⟨by rw [HZ2.out]; rfl, (Ext.refl _).alloc _⟩


def arcBad (x : Arc) : Int := firstE [rgd (decide (1 ≤ x.r) && decide (x.r ≤ 100000)), rngE x.lo x.hi 0 1000000000000]
def ckArcs : Nat → Option Int → List Arc → Int × Int
  | _, _, [] => (0, 0)
  | i, p, x :: xs => if arcBad x ≠ 0 then (i, arcBad x) else if ordBad p x.r = true then (i, 9) else ckArcs (i + 1) (some x.r) xs
def ckA (l : List Arc) : Int × Int := if l.length < 2 then (0, 10) else if 12 < l.length then (0, 8) else ckArcs 0 none l
def prevA (l : List Arc) : Nat → Option Int
  | 0 => none
  | k + 1 => (l[k]?).map (·.r)

set_option maxRecDepth 100000 in
set_option maxHeartbeats 1000000 in
theorem checkArcs_c (l : List Arc) (A : Option Addr) (c : Nat) (w : World) (h : ArcsS w A l) :
    Calls Try.prog 48 #[.slice A l.length c] w fun e w' => e = .returned (.tuple #[.int .i64 (ckA l).1, .int .i64 (ckA l).2]) ∧ Ext w w' := by
  by_cases h0 : l.length < 2
  · have hT : ckA l = (0, 10) := by simp [ckA, h0]
    have hT' := Lib.hid hT; clear hT
    have h0' : (l.length : Int) < 2 := by omega
    go_enter Try.func48, Try.ntmps48
    go_wp2
    go_ret2
    exact ⟨by rw [hT'.out]; rfl, Ext.refl _⟩
  by_cases h1 : 12 < l.length
  · have hT : ckA l = (0, 8) := by simp [ckA, h0, h1]
    have hT' := Lib.hid hT; clear hT
    go_enter Try.func48, Try.ntmps48
    go_wp2
    go_ret2
    exact ⟨by rw [hT'.out]; rfl, Ext.refl _⟩
  obtain ⟨b, off, rfl, hbl, hR⟩ := h.resolve_left (fun e => h0 (by rw [e]; simp))
  have hT : ckA l = ckArcs 0 none l := by simp [ckA, h0, h1]
  have hT' := Lib.hid hT; clear hT
  go_enter Try.func48, Try.ntmps48
  go_wp2
  go_loopw [4, 5, 6, 7, 18] (fun _ _ _ _ i wr => ∃ k : Nat, k ≤ l.length ∧ i = .int .i64 k ∧ Ext w wr ∧ ckArcs 0 none l = ckArcs k (prevA l k) (l.drop k)) (fun _ _ _ _ i _ => l.length - (intOf i).toNat)
  case atStart => exact ⟨0, Nat.zero_le _, rfl, Ext.refl _, rfl⟩
  case round =>
    obtain ⟨k, hk, rfl, hE, hf⟩ := hrel
    have HF := Lib.hid hf; clear hf
    have HHE := Lib.hid hE; clear hE
    by_cases hlt : k < l.length
    · obtain ⟨c1, c2, c3⟩ := hR.ext HHE.out k _ (List.getElem?_eq_getElem hlt)
      have hbw := Nat.lt_of_lt_of_le hbl HHE.out.size
      have hd : ckArcs k (prevA l k) (l.drop k) = if arcBad l[k] ≠ 0 then ((k : Int), arcBad l[k]) else if ordBad (prevA l k) l[k].r = true then ((k : Int), 9) else ckArcs (k + 1) (prevA l (k + 1)) (l.drop (k + 1)) := by
        rw [List.drop_eq_getElem_cons hlt, show prevA l (k + 1) = some l[k].r from by simp [prevA, hlt]]; rfl
      have HD := Lib.hid hd; clear hd
      generalize l[k] = x at *
      go_wp2
      refine wp_region_T (R := Ext) (fun w' => Ext (wr.alloc (.cells #[.int .i64 x.r, .int .i64 x.lo, .int .i64 x.hi] 34)) w') [(0, 0), (1, 0), (2, 0), (3, 0), (4, 0), (5, 0), (6, 0), (7, 0), (8, 1), (9, 0), (10, 0)] (by kernel_rfl) (by kernel_rfl) (fun _ _ h k => k.trans h) ((Ext.refl _).drew) ?_
      iterate 8
        first
          | (apply wpT_no
             focus (simp only [List.getElem?_toArray, List.getElem?_cons_zero, List.getElem?_cons_succ]; rfl)
             focus rfl
             focus (simp only [Act.put, List.setIfInBounds_toArray, List.set_cons_zero, List.set_cons_succ]; rfl))
          | (apply wpT_ex
             focus (simp only [List.getElem?_toArray, List.getElem?_cons_zero, List.getElem?_cons_succ]; rfl)
             focus rfl
             focus
               intro w1 hC Ψ hΨ
               have d1 : w1.cell? ⟨wr.heap.size, 0, none⟩ = some (.int .i64 x.r) := hC.cell (by simp)
               have d2 : w1.cell? ⟨wr.heap.size, 1, none⟩ = some (.int .i64 x.lo) := hC.cell (by simp)
               have d3 : w1.cell? ⟨wr.heap.size, 2, none⟩ = some (.int .i64 x.hi) := hC.cell (by simp)
               go_simp; (try (go_bits; (try go_simp)))
               first
                 | exact hΨ _ (Ext.refl _)
                 | (go_at_call 25; refine (within_c _ _ _ _).mono ?_; rintro e w2 ⟨rfl, rfl⟩; exact ⟨_, rfl, hΨ _ (Ext.refl _)⟩)
                 | (go_at_call 60; refine (ranged_c _ _).mono ?_; rintro e w2 ⟨rfl, rfl⟩; exact ⟨_, rfl, hΨ _ (Ext.refl _)⟩)
                 | (go_at_call 64; refine (range_isTime_c _ _ _).mono ?_; rintro e w2 ⟨rfl, hE2⟩; exact ⟨_, rfl, hΨ _ hE2⟩)
             focus (simp only [Act.put, List.setIfInBounds_toArray, List.set_cons_zero, List.set_cons_succ]; rfl))
      apply wpT_fr (fun v w => ∃ g, v = .slice (some ⟨g, 0, none⟩) 2 2 ∧ w.cell? ⟨g, 0, none⟩ = some (.int .i64 (rgd (decide (1 ≤ x.r) && decide (x.r ≤ 100000)))) ∧ w.cell? ⟨g, 1, none⟩ = some (.int .i64 (rngE x.lo x.hi 0 1000000000000)))
      focus (simp only [List.getElem?_toArray, List.getElem?_cons_zero, List.getElem?_cons_succ]; rfl)
      focus rfl
      focus
        rintro v wa wb hab ⟨g, rfl, hg, hg2⟩
        exact ⟨g, rfl, hab.cell hg, hab.cell hg2⟩
      focus
        intro w1 hC Ψ hΨ
        go_simp
        exact hΨ _ _ ((Ext.refl _).alloc _) ⟨_, rfl, by simp, by simp⟩
      intro v0 a0' ha
      simp only [Act.put, List.setIfInBounds_toArray, List.set_cons_zero, List.set_cons_succ] at ha
      subst ha
      iterate 2
        first
          | (apply wpT_no
             focus (simp only [List.getElem?_toArray, List.getElem?_cons_zero, List.getElem?_cons_succ]; rfl)
             focus rfl
             focus (simp only [Act.put, List.setIfInBounds_toArray, List.set_cons_zero, List.set_cons_succ]; rfl))
          | (apply wpT_ex
             focus (simp only [List.getElem?_toArray, List.getElem?_cons_zero, List.getElem?_cons_succ]; rfl)
             focus rfl
             focus
               intro w1 hC Ψ hΨ
               obtain ⟨hC, g, hv, hv0, hv1⟩ := hC; subst hv
               have HV := Lib.hid (And.intro hv0 hv1); clear hv0 hv1
               go_simp; (try (go_bits; (try go_simp)))
               first
                 | exact hΨ _ (Ext.refl _)
                 | (go_at_call 40; refine (first2_c _ _ _ _ HV.out.1 HV.out.2).mono ?_; rintro e w2 ⟨rfl, rfl⟩; exact ⟨_, rfl, hΨ _ (Ext.refl _)⟩)
             focus (simp only [Act.put, List.setIfInBounds_toArray, List.set_cons_zero, List.set_cons_succ]; rfl))
      refine wpT_nil ?_
      intro w1 hC
      have hrb : firstE [rgd (decide (1 ≤ x.r) && decide (x.r ≤ 100000)), rngE x.lo x.hi 0 1000000000000] = arcBad x := rfl
      rw [hrb]
      have HC := Lib.hid hC.1; clear hC hrb
      have hE1 : Ext w w1 := (HHE.out.alloc _).trans HC.out
      have HE1 := Lib.hid hE1; clear hE1
      generalize arcBad x = r at *
      by_cases hr : r = 0
      · subst hr
        have e1 : w1.cell? ⟨wr.heap.size, 0, none⟩ = some (.int .i64 x.r) := HC.out.cell (by simp)
        clear c1 c2 c3
        rcases Nat.eq_zero_or_pos k with hk0 | hkp
        · subst hk0
          go_wp2
          refine wp_region_T (R := Ext) (fun w' => Ext (w1) w') [(0, 0), (1, 0), (2, 0), (3, 0), (4, 0), (5, 0), (6, 0), (7, 0), (8, 0), (9, 0), (10, 0), (11, 0), (12, 0)] (by kernel_rfl) (by kernel_rfl) (fun _ _ h k => k.trans h) ((Ext.refl _).drew) ?_
          iterate 13
            first
              | (apply wpT_no
                 focus (simp only [List.getElem?_toArray, List.getElem?_cons_zero, List.getElem?_cons_succ]; rfl)
                 focus rfl
                 focus (simp only [Act.put, List.setIfInBounds_toArray, List.set_cons_zero, List.set_cons_succ]; rfl))
              | (apply wpT_ex
                 focus (simp only [List.getElem?_toArray, List.getElem?_cons_zero, List.getElem?_cons_succ]; rfl)
                 focus rfl
                 focus
                   intro w1 hC Ψ hΨ
                   have d1 := hC.cell e1
                   go_simp; (try (go_bits; (try go_simp)))
                   first
                     | exact hΨ _ (Ext.refl _)
                 focus (simp only [Act.put, List.setIfInBounds_toArray, List.set_cons_zero, List.set_cons_succ]; rfl))
          refine wpT_nil ?_
          intro w2 hC
          have HC := Lib.hid hC; clear hC
          go_wp2
          go_roundw
          case rel => exact ⟨1, by omega, by go_num, HE1.out.trans HC.out, by rw [HF.out, HD.out]; simp [prevA, ordBad]⟩
          case measure => simp [intOf] <;> omega
        · obtain ⟨m, rfl⟩ : ∃ m, k = m + 1 := ⟨k - 1, by omega⟩
          have hm : m < l.length := by omega
          have e2 := (hR.ext HE1.out m _ (List.getElem?_eq_getElem hm)).1
          have hp : prevA l (m + 1) = some l[m].r := by simp [prevA, hm]
          rw [hp] at HD HF
          clear hp
          generalize l[m] = y at *
          have hpos : (0 : Int) < (m : Int) + 1 := by omega
          go_wp2
          refine wp_region_T (R := Ext) (fun w' => Ext (w1) w') [(0, 0), (1, 0), (2, 0), (3, 0), (4, 0), (5, 0), (6, 0), (7, 0), (8, 0), (9, 0), (10, 0), (11, 0), (12, 0)] (by kernel_rfl) (by kernel_rfl) (fun _ _ h k => k.trans h) ((Ext.refl _).drew) ?_
          iterate 13
            first
              | (apply wpT_no
                 focus (simp only [List.getElem?_toArray, List.getElem?_cons_zero, List.getElem?_cons_succ]; rfl)
                 focus rfl
                 focus (simp only [Act.put, List.setIfInBounds_toArray, List.set_cons_zero, List.set_cons_succ]; rfl))
              | (apply wpT_ex
                 focus (simp only [List.getElem?_toArray, List.getElem?_cons_zero, List.getElem?_cons_succ]; rfl)
                 focus rfl
                 focus
                   intro w1 hC Ψ hΨ
                   have d1 := hC.cell e1
                   have d2 := hC.cell e2
                   go_simp; (try (go_bits; (try go_simp)))
                   first
                     | exact hΨ _ (Ext.refl _)
                 focus (simp only [Act.put, List.setIfInBounds_toArray, List.set_cons_zero, List.set_cons_succ]; rfl))
          refine wpT_nil ?_
          intro w2 hC
          have HC := Lib.hid hC; clear hC
          by_cases hle : x.r ≤ y.r
          · go_wp2
            go_ret2
            have hz : ckA l = ((m : Int) + 1, 9) := by rw [hT'.out, HF.out, HD.out]; simp [hle, ordBad]
            exact ⟨by rw [hz]; rfl, HE1.out.trans HC.out⟩
          · have hz : ckArcs (m + 1) (some y.r) (l.drop (m + 1)) = ckArcs (m + 1 + 1) (prevA l (m + 1 + 1)) (l.drop (m + 1 + 1)) := by rw [HD.out]; simp [hle, ordBad]
            have HZ := Lib.hid hz; clear hz
            go_wp2
            go_roundw
            case rel => exact ⟨m + 1 + 1, by omega, by go_num, HE1.out.trans HC.out, by rw [HF.out, HZ.out]⟩
            case measure => simp [intOf] <;> omega
      · have hrb : (r == 0) = false := by simpa using hr
        go_wp2
        go_ret2
        exact ⟨by rw [hT'.out, HF.out, HD.out, if_pos hr]; rfl, HE1.out⟩
    · go_wp2
      go_ret2
      exact ⟨by rw [hT'.out, HF.out, List.drop_of_length_le (by omega)]; rfl, HHE.out⟩

set_option maxHeartbeats 1000000 in
theorem open_c (l : List Arc) (A : Option Addr) (c : Nat) (w : World) (h : ArcsS w A l) :
    Calls Try.prog 21 #[.slice A l.length c] w fun e w' => e = .returned (.tuple #[.slice A l.length c, .int .i64 (ckA l).2]) ∧ Ext w w' := by
  have hc := checkArcs_c l A c w h
  generalize (ckA l).2 = r at *
  generalize (ckA l).1 = q at *
  have HC := Lib.hid hc; clear hc
  go_enter Try.func21, Try.ntmps21
  go_wp2_with (go_at_call 48; refine HC.out.mono ?_; go_must (rintro e W ⟨rfl, hE1⟩; have HE := Lib.hid hE1; clear hE1))
  go_ret2
  exact ⟨rfl, HE.out⟩
theorem less_c (a b : Int × Int) (w : World) (h1 : -9223372036854775807 ≤ a.1 * b.2) (h2 : a.1 * b.2 ≤ 9223372036854775807) (h3 : -9223372036854775807 ≤ b.1 * a.2) (h4 : b.1 * a.2 ≤ 9223372036854775807) :
    Calls Try.prog 51 #[.agg #[.int .i64 a.1, .int .i64 a.2], .agg #[.int .i64 b.1, .int .i64 b.2]] w fun e w' => e = .returned (.bool (decide (a.1 * b.2 < b.1 * a.2))) ∧ Ext w w' := by
  go_enter Try.func51, Try.ntmps51
  go_wp2
  go_ret
  exact ⟨rfl, ((Ext.refl _).alloc _).alloc _⟩
end Go.Proofs.Ytgolkffigoabhaa
namespace Go.Proofs.Ytgolkffigoabhaa
open Go.RowKit Go.Shelf
attribute [local go_sem] Oper.semAt_some

def encP (p : Arc × Arc) : Array Value := #[.agg #[.int .i64 p.1.r, .int .i64 p.1.lo, .int .i64 p.1.hi], .agg #[.int .i64 p.2.r, .int .i64 p.2.lo, .int .i64 p.2.hi]]
/-- The pairs that have come when k outer rounds are over. -/
def pairsTo (l : List Arc) : Nat → List (Arc × Arc)
  | 0 => []
  | k + 1 => pairsTo l k ++ (l.take k).map fun a => (a, l.getD k ⟨0, 0, 0⟩)
theorem pairsTo_prefix (l : List Arc) {k j : Nat} (h : k ≤ j) : pairsTo l k <+: pairsTo l j := by
  induction j with
  | zero => obtain rfl : k = 0 := by omega
            exact List.prefix_refl _
  | succ j ih =>
    by_cases hk : k = j + 1
    · subst hk; exact List.prefix_refl _
    · exact (ih (by omega)).trans (List.prefix_append _ _)

set_option maxRecDepth 100000 in
set_option maxHeartbeats 2000000 in
theorem pairs_iter (l : List Arc) (b off c : Nat) (n₀ : Nat) (w : World) (hb : b < n₀) (hn₀ : n₀ ≤ w.heap.size) (hR : ArcsR w b off l) (hl : l.length ≤ 12) (hc : l.length ≤ c) :
    Iter Try.prog 28 #[.slice (some ⟨b, off, none⟩) l.length c] #[] encP (pairsTo l l.length) n₀ w := by
  intro m yl J W hwW hJ hJB hY h0
  have HJB : ∀ s A, J s A → ArcsR A b off l := by
    intro s A hs i x hx
    have hr := hR.ext hwW i x hx
    have hh := hJB s A hs b hb
    have hcc : ∀ o, A.cell? ⟨b, o, none⟩ = W.cell? ⟨b, o, none⟩ := fun o => World.cell?_of_block (w := W) hh
    exact ⟨(hcc _).trans hr.1, (hcc _).trans hr.2.1, (hcc _).trans hr.2.2⟩
  have HY := Lib.hid hY; clear hY
  have HJ := Lib.hid hJ; clear hJ
  have HJR := Lib.hid HJB; clear HJB hJB
  show CallsIn Fence.wide (m + 1) Try.prog 28 #[.slice (some ⟨b, off, none⟩) l.length c, .func (.yield yl) #[] #[]] W _
  have h1 : 1 ≤ m + 1 := by omega
  refine callsIn_of_wp Try.func28 rfl trivial ?_ rfl
  simp only [Try.ntmps28, List.size_toArray, List.length_cons, List.length_nil, Nat.reduceAdd, Nat.reduceSub, Array.replicate_succ, Array.replicate_zero, List.push_toArray, List.append_toArray, List.nil_append, List.cons_append]
  gi_wp2
  gi_loopw [4, 5, 7, 10] (fun _ _ _ i wr => ∃ k : Nat, k ≤ l.length ∧ i = .int .i64 k ∧ J (pairsTo l k) wr ∧ W.heap.size ≤ wr.heap.size) (fun _ _ _ i _ => l.length - (intOf i).toNat)
  case atStart => exact ⟨0, Nat.zero_le _, rfl, h0, Nat.le_refl _⟩
  case round =>
    obtain ⟨k, hk, rfl, hJs, hsz⟩ := hrel
    have HJs := Lib.hid hJs; clear hJs
    by_cases hlt : k < l.length
    · obtain ⟨c1, c2, c3⟩ := HJR.out _ _ HJs.out k _ (List.getElem?_eq_getElem hlt)
      have hgd : l.getD k ⟨0, 0, 0⟩ = l[k] := by simp [hlt]
      have HG := Lib.hid hgd; clear hgd
      generalize l[k] = y at *
      have hc0 : (k : Int) ≤ (c : Int) := by omega
      gi_wp2
      have hE2 : Ext wr (wr.alloc (.cells #[.int .i64 y.r, .int .i64 y.lo, .int .i64 y.hi] 34)) := (Ext.refl wr).alloc _
      have q1 : (wr.alloc (.cells #[.int .i64 y.r, .int .i64 y.lo, .int .i64 y.hi] 34)).cell? ⟨wr.heap.size, 0, none⟩ = some (.int .i64 y.r) := by simp
      have q2 : (wr.alloc (.cells #[.int .i64 y.r, .int .i64 y.lo, .int .i64 y.hi] 34)).cell? ⟨wr.heap.size, 1, none⟩ = some (.int .i64 y.lo) := by simp
      have q3 : (wr.alloc (.cells #[.int .i64 y.r, .int .i64 y.lo, .int .i64 y.hi] 34)).cell? ⟨wr.heap.size, 2, none⟩ = some (.int .i64 y.hi) := by simp
      have hlt2 : wr.heap.size < (wr.alloc (.cells #[.int .i64 y.r, .int .i64 y.lo, .int .i64 y.hi] 34)).heap.size := by simp
      have hJ2 := HJ.out _ _ _ HJs.out hE2
      have hsz2 : W.heap.size ≤ (wr.alloc (.cells #[.int .i64 y.r, .int .i64 y.lo, .int .i64 y.hi] 34)).heap.size := by simp; omega
      obtain ⟨g5, hg5⟩ : ∃ g5, wr.heap.size = g5 := ⟨_, rfl⟩
      rw [hg5] at q1 q2 q3 hlt2
      have hWg : W.heap.size ≤ g5 := by omega
      generalize wr.alloc (.cells #[.int .i64 y.r, .int .i64 y.lo, .int .i64 y.hi] 34) = w2 at *
      rw [hg5]
      have HQ := Lib.hid (And.intro q1 (And.intro q2 q3)); clear q1 q2 q3
      have HJ2 := Lib.hid hJ2; clear hJ2 hE2 c1 c2 c3
      clear hg5
      have hkn : min k l.length = k := by omega
      have hgt : ∀ j, j < k → (l.take k)[j]? = some (l.getD j ⟨0, 0, 0⟩) := fun j hj => by simp [hj, show j < l.length by omega]
      have HGT := Lib.hid hgt; clear hgt
      gi_loopw [7, 19] (fun _ i wr3 => ∃ j : Nat, j ≤ k ∧ i = .int .i64 j ∧ J (pairsTo l k ++ ((l.take k).take j).map fun a => (a, y)) wr3 ∧ W.heap.size ≤ wr3.heap.size ∧ g5 < wr3.heap.size ∧ wr3.cell? ⟨g5, 0, none⟩ = some (.int .i64 y.r) ∧ wr3.cell? ⟨g5, 1, none⟩ = some (.int .i64 y.lo) ∧ wr3.cell? ⟨g5, 2, none⟩ = some (.int .i64 y.hi)) (fun _ i _ => k - (intOf i).toNat)
      case atStart => exact ⟨0, Nat.zero_le _, rfl, by simpa using HJ2.out, hsz2, hlt2, HQ.out.1, HQ.out.2.1, HQ.out.2.2⟩
      case round =>
        obtain ⟨j, hj, rfl, hJs3, hsz3, hlt3, p1, p2, p3⟩ := hrel
        have HJs3 := Lib.hid hJs3; clear hJs3
        obtain ⟨w3, hw3⟩ : ∃ w3, w3 = wr := ⟨_, rfl⟩
        by_cases hjk : j < k
        · have hjl : j < l.length := by omega
          obtain ⟨c1, c2, c3⟩ := HJR.out _ _ HJs3.out j _ (List.getElem?_eq_getElem hjl)
          have hgx : l.getD j ⟨0, 0, 0⟩ = l[j] := by simp [hjl]
          have htk : ((l.take k).take (j + 1)).map (fun a => (a, y)) = ((l.take k).take j).map (fun a => (a, y)) ++ [(l[j], y)] := by
            rw [List.take_add_one, HGT.out j hjk, hgx]; simp
          have hpre : (pairsTo l k ++ ((l.take k).take j).map fun a => (a, y)) ++ [(l[j], y)] <+: pairsTo l l.length := by
            refine List.IsPrefix.trans ?_ (pairsTo_prefix l (show k + 1 ≤ l.length by omega))
            rw [List.append_assoc, ← htk]
            simp only [pairsTo, HG.out]
            refine (List.prefix_append_right_inj _).2 ?_
            exact List.IsPrefix.map _ (List.take_prefix _ _)
          have HTK := Lib.hid htk; clear htk
          generalize l[j] = x at *
          have hE4 : Ext wr (wr.alloc (.cells #[.int .i64 x.r, .int .i64 x.lo, .int .i64 x.hi] 34)) := (Ext.refl wr).alloc _
          obtain ⟨fn, tmps, assign, body, hy, hRd⟩ := HY.out _ (x, y) (wr.alloc (.cells #[.int .i64 x.r, .int .i64 x.lo, .int .i64 x.hi] 34)) (HJ.out _ _ _ HJs3.out hE4) hpre
          simp only [encP] at hy
          have HE4 := Lib.hid hE4; clear hE4 hpre
          have HRd := Lib.hid hRd; clear hRd
          gi_wp2
          refine HRd.out.mono ?_
          rintro e B ⟨rfl, hJB, hszB, hkB⟩
          have r1 : B.cell? ⟨g5, 0, none⟩ = some (.int .i64 y.r) := (World.cell?_of_block (w := wr.alloc (.cells #[.int .i64 x.r, .int .i64 x.lo, .int .i64 x.hi] 34)) (hkB g5 hWg (by simp; omega))).trans (HE4.out.cell p1)
          have r2 : B.cell? ⟨g5, 1, none⟩ = some (.int .i64 y.lo) := (World.cell?_of_block (w := wr.alloc (.cells #[.int .i64 x.r, .int .i64 x.lo, .int .i64 x.hi] 34)) (hkB g5 hWg (by simp; omega))).trans (HE4.out.cell p2)
          have r3 : B.cell? ⟨g5, 2, none⟩ = some (.int .i64 y.hi) := (World.cell?_of_block (w := wr.alloc (.cells #[.int .i64 x.r, .int .i64 x.lo, .int .i64 x.hi] 34)) (hkB g5 hWg (by simp; omega))).trans (HE4.out.cell p3)
          have hszB' : wr.heap.size + 1 ≤ B.heap.size := by simpa using hszB
          have HJB := Lib.hid hJB; clear hJB hkB hszB c1 c2 c3 hy
          gi_wp2
          go_roundw
          case rel => exact ⟨j + 1, by omega, by go_num, by rw [HTK.out, ← List.append_assoc]; exact HJB.out, by omega, by omega, r1, r2, r3⟩
          case measure => simp [intOf] <;> omega
        · have hjk2 : j = k := by omega
          subst hjk2
          have hJ5 : J (pairsTo l (j + 1)) wr := by
            have h2 := HJs3.out
            rw [List.take_take, Nat.min_self] at h2
            simp only [pairsTo, HG.out]
            exact h2
          have HJ5 := Lib.hid hJ5; clear hJ5
          gi_wp2
          go_roundw
          case rel => exact ⟨j + 1, by omega, by go_num, HJ5.out, hsz3⟩
          case measure => simp [intOf] <;> omega
    · have hkk : k = l.length := by omega
      subst hkk
      gi_wp2
      go_end0
      exact ⟨⟨_, rfl⟩, HJs.out⟩
end Go.Proofs.Ytgolkffigoabhaa
namespace Go.Proofs.Ytgolkffigoabhaa
open Go.RowKit Go.Shelf
attribute [local go_sem] Oper.semAt_some
theorem wide_fn (f : FuncId) : Fence.wide.fn f = True := rfl
theorem wide_depth : Fence.wide.depth.isSome = false := rfl
attribute [local go_sem] wide_fn wide_depth

def ArcOk (x : Arc) : Prop := 1 ≤ x.r ∧ x.r ≤ 100000 ∧ 0 ≤ x.lo ∧ x.lo ≤ 1000000000000 ∧ 0 ≤ x.hi ∧ x.hi ≤ 1000000000000
structure Slow where
  le : Int × Int
  mo : Int × Int
  bg : Bool
def slow0 : Slow := ⟨(0, 0), (0, 0), false⟩
def lessB (a b : Int × Int) : Bool := decide (a.1 * b.2 < b.1 * a.2)
def wayP (p : Arc × Arc) : Int := 2 * (p.2.r - p.1.r)
def loP (p : Arc × Arc) : Int × Int := (p.2.lo - p.1.hi, wayP p)
def hiP (p : Arc × Arc) : Int × Int := (p.2.hi - p.1.lo, wayP p)
def slowS (s : Slow) (p : Arc × Arc) : Slow := ⟨if !s.bg || lessB s.le (loP p) then loP p else s.le, if !s.bg || lessB (hiP p) s.mo then hiP p else s.mo, true⟩
def slowL (xs : List (Arc × Arc)) : Slow := xs.foldl slowS slow0
theorem slowL_snoc (xs : List (Arc × Arc)) (p : Arc × Arc) : slowL (xs ++ [p]) = slowS (slowL xs) p := by simp [slowL]

/-- The numbers of a share keep small. -/
def Small (q : Int × Int) : Prop := -1000000000000 ≤ q.1 ∧ q.1 ≤ 1000000000000 ∧ -200000 ≤ q.2 ∧ q.2 ≤ 200000
theorem Small.mul {a b : Int × Int} (ha : Small a) (hb : Small b) : -9223372036854775807 ≤ a.1 * b.2 ∧ a.1 * b.2 ≤ 9223372036854775807 := by
  obtain ⟨a1, a2, -, -⟩ := ha
  obtain ⟨-, -, b1, b2⟩ := hb
  have h1 : (0 : Int) ≤ (1000000000000 - a.1) * (b.2 + 200000) := Int.mul_nonneg (by omega) (by omega)
  have h2 : (0 : Int) ≤ (a.1 + 1000000000000) * (b.2 + 200000) := Int.mul_nonneg (by omega) (by omega)
  have h3 : (0 : Int) ≤ (1000000000000 - a.1) * (200000 - b.2) := Int.mul_nonneg (by omega) (by omega)
  have h4 : (0 : Int) ≤ (a.1 + 1000000000000) * (200000 - b.2) := Int.mul_nonneg (by omega) (by omega)
  rw [Int.sub_mul, Int.mul_add, Int.mul_add] at h1
  rw [Int.add_mul, Int.mul_add, Int.mul_add] at h2
  rw [Int.sub_mul, Int.mul_sub, Int.mul_sub] at h3
  rw [Int.add_mul, Int.mul_sub, Int.mul_sub] at h4
  constructor <;> omega
theorem small_lo {p : Arc × Arc} (h1 : ArcOk p.1) (h2 : ArcOk p.2) : Small (loP p) := by
  unfold ArcOk at h1 h2; unfold Small loP wayP; simp only; omega
theorem small_hi {p : Arc × Arc} (h1 : ArcOk p.1) (h2 : ArcOk p.2) : Small (hiP p) := by
  unfold ArcOk at h1 h2; unfold Small hiP wayP; simp only; omega
theorem pairsTo_ok {l : List Arc} (h : ∀ x ∈ l, ArcOk x) : ∀ k, k ≤ l.length → ∀ p ∈ pairsTo l k, ArcOk p.1 ∧ ArcOk p.2
  | 0, _ => by simp [pairsTo]
  | k + 1, hk => by
    intro p hp
    simp only [pairsTo, List.mem_append, List.mem_map] at hp
    rcases hp with hp | ⟨a, ha, rfl⟩
    · exact pairsTo_ok h k (by omega) p hp
    · exact ⟨h a (List.mem_of_mem_take ha), by rw [show l.getD k ⟨0, 0, 0⟩ = l[k] by simp [show k < l.length by omega]]; exact h _ (List.getElem_mem _)⟩
theorem small_slow : ∀ (xs : List (Arc × Arc)) (s : Slow), Small s.le → Small s.mo → (∀ p ∈ xs, ArcOk p.1 ∧ ArcOk p.2) → Small (xs.foldl slowS s).le ∧ Small (xs.foldl slowS s).mo
  | [], _, h1, h2, _ => ⟨h1, h2⟩
  | p :: xs, s, h1, h2, h => by
    have hp := h p (by simp)
    refine small_slow xs (slowS s p) ?_ ?_ fun q hq => h q (by simp [hq])
    · unfold slowS; dsimp only; split
      · exact small_lo hp.1 hp.2
      · exact h1
    · unfold slowS; dsimp only; split
      · exact small_hi hp.1 hp.2
      · exact h2
theorem small_zero : Small (0, 0) := by unfold Small; simp

theorem less_s {a b : Int × Int} (ha : Small a) (hb : Small b) (w : World) :
    Calls Try.prog 51 #[.agg #[.int .i64 a.1, .int .i64 a.2], .agg #[.int .i64 b.1, .int .i64 b.2]] w fun e w' => e = .returned (.bool (lessB a b)) ∧ Ext w w' :=
  less_c a b w (ha.mul hb).1 (ha.mul hb).2 (hb.mul ha).1 (hb.mul ha).2
def aggP (q : Int × Int) : Value := .agg #[.int .i64 q.1, .int .i64 q.2]
structure SlowW (A : World) (n n1 n2 : Nat) (s : Slow) : Prop where
  le : Blk2 A n (.int .i64 s.le.1) (.int .i64 s.le.2)
  mo : Blk2 A n1 (.int .i64 s.mo.1) (.int .i64 s.mo.2)
  bg : A.cell? ⟨n2, 0, none⟩ = some (.bool s.bg)
  bf : A.frozen? ⟨n2, 0, none⟩ = false
  lt : n2 < A.heap.size
theorem new1 (w : World) (v : Value) (t : TypeId) : (w.alloc (.cells #[v] t)).cell? ⟨w.heap.size, 0, none⟩ = some v ∧ (w.alloc (.cells #[v] t)).frozen? ⟨w.heap.size, 0, none⟩ = false := ⟨by simp, by simp⟩
theorem SlowW.putObj {A : World} {n n1 n2 : Nat} {s : Slow} (h : SlowW A n n1 n2 s) {k : Nat} (hn : n < k) (h1 : n1 < k) (h2 : n2 < k) (o : Obj) : SlowW (A.putObj k o) n n1 n2 s := by
  have hc : ∀ g, g < k → (A.putObj k o).heap[g]? = A.heap[g]? := fun g hg => World.putObj_heap_other (by omega)
  have c : ∀ g x, g < k → (A.putObj k o).cell? ⟨g, x, none⟩ = A.cell? ⟨g, x, none⟩ := fun g x hg => World.cell?_of_block (w := A) (hc g hg)
  have z : ∀ g x, g < k → (A.putObj k o).frozen? ⟨g, x, none⟩ = A.frozen? ⟨g, x, none⟩ := fun g x hg => World.frozen?_of_block (w := A) (hc g hg)
  obtain ⟨⟨a1, a2, a3, a4, a5⟩, ⟨b1, b2, b3, b4, b5⟩, c1, c2, c3⟩ := h
  refine ⟨⟨?_, ?_, ?_, ?_, ?_⟩, ⟨?_, ?_, ?_, ?_, ?_⟩, ?_, ?_, ?_⟩
  · rw [c _ _ (by omega)]; exact a1
  · rw [c _ _ (by omega)]; exact a2
  · rw [z _ _ (by omega)]; exact a3
  · rw [z _ _ (by omega)]; exact a4
  · rw [World.putObj_size]; exact a5
  · rw [c _ _ (by omega)]; exact b1
  · rw [c _ _ (by omega)]; exact b2
  · rw [z _ _ (by omega)]; exact b3
  · rw [z _ _ (by omega)]; exact b4
  · rw [World.putObj_size]; exact b5
  · rw [c _ _ (by omega)]; exact c1
  · rw [z _ _ (by omega)]; exact c2
  · rw [World.putObj_size]; exact c3
theorem SlowW.ext {A B : World} {n n1 n2 : Nat} {s : Slow} (h : SlowW A n n1 n2 s) (hE : Ext A B) : SlowW B n n1 n2 s :=
  ⟨h.le.ext hE, h.mo.ext hE, hE.cell h.bg, hE.fz h.lt h.bf, Nat.lt_of_lt_of_le h.lt hE.size⟩
/-- A write of two cells of another block. -/
theorem Blk2.far {w : World} {g k : Nat} {a b : Value} (h : Blk2 w g a b) (hk : g ≠ k) (u v : Value) : Blk2 ((w.setCell ⟨k, 0, none⟩ u).setCell ⟨k, 1, none⟩ v) g a b :=
  ⟨put2_far h.c0 hk u v 0 1, put2_far h.c1 hk u v 0 1, by simp [h.f0], by simp [h.f1], by simpa using h.lt⟩
theorem SlowW.putLe {A : World} {n n1 n2 : Nat} {s : Slow} (h : SlowW A n n1 n2 s) (h1 : n1 ≠ n) (h2 : n2 ≠ n) (u : Int × Int) : SlowW ((A.setCell ⟨n, 0, none⟩ (.int .i64 u.1)).setCell ⟨n, 1, none⟩ (.int .i64 u.2)) n n1 n2 ⟨u, s.mo, s.bg⟩ :=
  ⟨h.le.put _ _, h.mo.far h1 _ _, put2_far h.bg h2 _ _ 0 1, by simp [h.bf], by simpa using h.lt⟩
theorem SlowW.putMo {A : World} {n n1 n2 : Nat} {s : Slow} (h : SlowW A n n1 n2 s) (h1 : n ≠ n1) (h2 : n2 ≠ n1) (u : Int × Int) : SlowW ((A.setCell ⟨n1, 0, none⟩ (.int .i64 u.1)).setCell ⟨n1, 1, none⟩ (.int .i64 u.2)) n n1 n2 ⟨s.le, u, s.bg⟩ :=
  ⟨h.le.far h1 _ _, h.mo.put _ _, put2_far h.bg h2 _ _ 0 1, by simp [h.bf], by simpa using h.lt⟩
theorem far1 {w : World} {g k o : Nat} {x : Value} (h : w.cell? ⟨g, o, none⟩ = some x) (hk : g ≠ k) (u : Value) (j : Nat) : (w.setCell ⟨k, j, none⟩ u).cell? ⟨g, o, none⟩ = some x :=
  (World.cell?_setCell_other _ _ _ _ (fun e => hk (by injection e with e1; exact e1.symm))).trans h
theorem SlowW.putBg {A : World} {n n1 n2 : Nat} {s : Slow} (h : SlowW A n n1 n2 s) (h1 : n ≠ n2) (h2 : n1 ≠ n2) (b : Bool) : SlowW (A.setCell ⟨n2, 0, none⟩ (.bool b)) n n1 n2 ⟨s.le, s.mo, b⟩ :=
  ⟨⟨far1 h.le.c0 h1 _ 0, far1 h.le.c1 h1 _ 0, by simp [h.le.f0], by simp [h.le.f1], by simpa using h.le.lt⟩, ⟨far1 h.mo.c0 h2 _ 0, far1 h.mo.c1 h2 _ 0, by simp [h.mo.f0], by simp [h.mo.f1], by simpa using h.mo.lt⟩,
    World.cell?_setCell_same _ _ _ h.bg, by simp [h.bf], by simpa using h.lt⟩
/-- In a round: what lay before the loop's own blocks, and what lies from k on, is as it was. -/
structure Round (w V : World) (k : Nat) (A : World) : Prop where
  ext : Ext w A
  size : V.heap.size ≤ A.heap.size
  keep : ∀ g, k ≤ g → g < V.heap.size → A.heap[g]? = V.heap[g]?
theorem Round.start {w V : World} (h : Ext w V) (k : Nat) : Round w V k V := ⟨h, Nat.le_refl _, fun _ _ _ => rfl⟩
theorem Round.grow {w V A B : World} {k : Nat} (h : Round w V k A) (hE : Ext A B) : Round w V k B :=
  ⟨h.ext.trans hE, Nat.le_trans h.size hE.size, fun g hg hv => (hE.block g (Nat.lt_of_lt_of_le hv h.size)).trans (h.keep g hg hv)⟩
theorem Round.set {w V A : World} {k : Nat} (h : Round w V k A) {g : Nat} (hw : w.heap.size ≤ g) (hg : g < k) (o : Nat) (v : Value) : Round w V k (A.setCell ⟨g, o, none⟩ v) :=
  ⟨h.ext.set hw v, by simpa using h.size, fun i hi hv => (Below.heap_setCell _ _ _ _ (by show i ≠ g; omega)).trans (h.keep i hi hv)⟩
theorem Round.new {w V A : World} {k : Nat} (h : Round w V k A) {g : Nat} (hw : w.heap.size ≤ g) (hg : V.heap.size ≤ g) (o : Nat) (v : Value) : Round w V k (A.setCell ⟨g, o, none⟩ v) :=
  ⟨h.ext.set hw v, by simpa using h.size, fun i hi hv => (Below.heap_setCell _ _ _ _ (by show i ≠ g; omega)).trans (h.keep i hi hv)⟩

/-- After the loop. -/
structure DoneW (w : World) (k n n1 n2 : Nat) (s : Slow) (A : World) : Prop where
  ext : Ext w A
  df : A.heap[k]? = some (.deferred (some []))
  sw : SlowW A n n1 n2 s
theorem DoneW.grow {w A B : World} {k n n1 n2 : Nat} {s : Slow} (h : DoneW w k n n1 n2 s A) (hE : Ext A B) : DoneW w k n n1 n2 s B := ⟨h.ext.trans hE, hE.heap h.df, h.sw.ext hE⟩
theorem DoneW.putLe {w A : World} {k n n1 n2 : Nat} {s : Slow} (h : DoneW w k n n1 n2 s A) (hw : w.heap.size ≤ n) (hk : k ≠ n) (h1 : n1 ≠ n) (h2 : n2 ≠ n) : DoneW w k n n1 n2 s ((A.setCell ⟨n, 0, none⟩ (.int .i64 s.le.1)).setCell ⟨n, 1, none⟩ (.int .i64 s.le.2)) :=
  ⟨(h.ext.set hw _).set hw _, ((Below.heap_setCell _ _ _ _ hk).trans (Below.heap_setCell _ _ _ _ hk)).trans h.df, h.sw.putLe h1 h2 s.le⟩
theorem DoneW.putMo {w A : World} {k n n1 n2 : Nat} {s : Slow} (h : DoneW w k n n1 n2 s A) (hw : w.heap.size ≤ n1) (hk : k ≠ n1) (h1 : n ≠ n1) (h2 : n2 ≠ n1) : DoneW w k n n1 n2 s ((A.setCell ⟨n1, 0, none⟩ (.int .i64 s.mo.1)).setCell ⟨n1, 1, none⟩ (.int .i64 s.mo.2)) :=
  ⟨(h.ext.set hw _).set hw _, ((Below.heap_setCell _ _ _ _ hk).trans (Below.heap_setCell _ _ _ _ hk)).trans h.df, h.sw.putMo h1 h2 s.mo⟩

set_option maxRecDepth 100000 in
set_option maxHeartbeats 2000000 in
theorem slowness_c (l : List Arc) (b off c : Nat) (w : World) (hb : b < w.heap.size) (hR : ArcsR w b off l) (hl : l.length ≤ 12) (hc : l.length ≤ c) (hok : ∀ x ∈ l, ArcOk x) :
    Calls Try.prog 27 #[.slice (some ⟨b, off, none⟩) l.length c] w fun e w' =>
      e = .returned (.tuple #[aggP (slowL (pairsTo l l.length)).le, aggP (slowL (pairsTo l l.length)).mo, .bool (!lessB (slowL (pairsTo l l.length)).mo (slowL (pairsTo l l.length)).le)]) ∧ Ext w w' := by
  have hpo := pairsTo_ok hok l.length (Nat.le_refl _)
  obtain ⟨items, hitm⟩ : ∃ items, pairsTo l l.length = items := ⟨_, rfl⟩
  rw [hitm] at hpo ⊢
  have HPO := Lib.hid hpo; clear hpo
  refine (callsIn_wide (n := 1)).1 (callsIn_of_wp_marks Try.func27 rfl trivial ?_ rfl)
  simp only [Try.ntmps27, List.size_toArray, List.length_cons, List.length_nil, Nat.reduceAdd, Nat.reduceSub, Array.replicate_succ, Array.replicate_zero, List.push_toArray, List.append_toArray, List.nil_append, List.cons_append]
  gi_wp2
  obtain ⟨w3, hw3⟩ : ∃ w3, ((w.alloc (.cells #[.int .i64 0, .int .i64 0] 65)).alloc (.cells #[.int .i64 0, .int .i64 0] 65)).alloc (.cells #[.bool false] 4) = w3 := ⟨_, rfl⟩
  have hs3 : w3.heap.size = w.heap.size + 3 := by rw [← hw3]; simp
  have hE3 : Ext w w3 := by rw [← hw3]; exact (((Ext.refl w).alloc _).alloc _).alloc _
  have hS3 : SlowW w3 w.heap.size (w.heap.size + 1) (w.heap.size + 1 + 1) slow0 := by
    subst hw3
    have hq := new1 ((w.alloc (.cells #[.int .i64 0, .int .i64 0] 65)).alloc (.cells #[.int .i64 0, .int .i64 0] 65)) (.bool false) 4
    simp only [World.size_alloc] at hq
    refine ⟨((Blk2.new w (.int .i64 0) (.int .i64 0) 65).ext (((Ext.refl _).alloc _).alloc _)), ?_, hq.1, hq.2, by simp⟩
    have := (Blk2.new (w.alloc (.cells #[.int .i64 0, .int .i64 0] 65)) (.int .i64 0) (.int .i64 0) 65).ext ((Ext.refl _).alloc (.cells #[.bool false] 4))
    simp only [World.size_alloc] at this
    exact this
  have hit := pairs_iter l b off c w.heap.size w3 hb hE3.size (hR.ext hE3) hl hc
  rw [hw3]
  clear hw3
  rw [hitm] at hit
  refine wpIn_range (items := items) (encs := encP) (gf := 28) (lb := #[]) (by go_simp) (fun args w => by rfl) (by omega) hit (fun x => rfl)
    (fun xs A => Ext w A ∧ w.heap.size + 3 ≤ A.heap.size ∧ SlowW A w.heap.size (w.heap.size + 1) (w.heap.size + 1 + 1) (slowL xs)) ?_ ?_ ?_ ⟨hE3, by omega, hS3⟩ ?_ ?_
  · rintro s A B ⟨h1, h2, h3⟩ hx
    exact ⟨h1.trans hx, Nat.le_trans h2 hx.size, h3.ext hx⟩
  · rintro s A k o ⟨h1, h2, h3⟩ hk
    exact ⟨ext_putObj_new h1 (by omega), by rw [World.putObj_size]; exact h2, h3.putObj (by omega) (by omega) (by omega) o⟩
  · rintro s A ⟨h1, _⟩ g hg
    rw [h1.block g hg, hE3.block g hg]
  · rintro m pre p W ⟨h1, h2, h3⟩ hpre hsz
    have hin : ∀ q ∈ pre ++ [p], ArcOk q.1 ∧ ArcOk q.2 := fun q hq => HPO.out q (hpre.subset hq)
    have hp := hin p (by simp)
    have hsm := small_slow pre slow0 small_zero small_zero fun q hq => hin q (by simp [hq])
    have hslo := small_lo hp.1 hp.2
    have hshi := small_hi hp.1 hp.2
    have hsn := slowL_snoc pre p
    change Small (slowL pre).le ∧ Small (slowL pre).mo at hsm
    generalize slowL pre = s at *
    clear hin hpre hitm HPO hit
    have HSN := Lib.hid hsn; clear hsn
    have HP := Lib.hid hp; clear hp
    have HM := Lib.hid (And.intro hsm (And.intro hslo hshi)); clear hsm hslo hshi
    simp only [encP]
    gi_wp2
    refine ⟨((Ext.refl W).alloc _).alloc _, fun o => ?_⟩
    obtain ⟨V, hV, eV, kV⟩ : ∃ V, V = ((W.alloc (.cells #[.int .i64 p.1.r, .int .i64 p.1.lo, .int .i64 p.1.hi] 34)).alloc (.cells #[.int .i64 p.2.r, .int .i64 p.2.lo, .int .i64 p.2.hi] 34)).putObj (w3.heap.size + 1) o ∧ Ext w V ∧ V.heap.size = W.heap.size + 2 :=
      ⟨_, rfl, ext_putObj_new (h1.trans (((Ext.refl W).alloc _).alloc _)) (by omega), by simp [World.putObj_size]⟩
    have hSV : SlowW V w.heap.size (w.heap.size + 1) (w.heap.size + 1 + 1) s := by rw [hV]; exact (h3.ext (((Ext.refl W).alloc _).alloc _)).putObj (by omega) (by omega) (by omega) o
    have hcv : ∀ g x, w3.heap.size + 1 < g → V.cell? ⟨g, x, none⟩ = ((W.alloc (.cells #[.int .i64 p.1.r, .int .i64 p.1.lo, .int .i64 p.1.hi] 34)).alloc (.cells #[.int .i64 p.2.r, .int .i64 p.2.lo, .int .i64 p.2.hi] 34)).cell? ⟨g, x, none⟩ :=
      fun g x hg => by
        have hh : (((W.alloc (.cells #[.int .i64 p.1.r, .int .i64 p.1.lo, .int .i64 p.1.hi] 34)).alloc (.cells #[.int .i64 p.2.r, .int .i64 p.2.lo, .int .i64 p.2.hi] 34)).putObj (w3.heap.size + 1) o).heap[g]? = ((W.alloc (.cells #[.int .i64 p.1.r, .int .i64 p.1.lo, .int .i64 p.1.hi] 34)).alloc (.cells #[.int .i64 p.2.r, .int .i64 p.2.lo, .int .i64 p.2.hi] 34)).heap[g]? := World.putObj_heap_other (by omega)
        rw [hV]; exact World.cell?_of_block hh
    have a0 : V.cell? ⟨W.heap.size, 0, none⟩ = some (.int .i64 p.1.r) := by rw [hcv _ _ (by omega)]; simp
    have a1 : V.cell? ⟨W.heap.size, 1, none⟩ = some (.int .i64 p.1.lo) := by rw [hcv _ _ (by omega)]; simp
    have a2 : V.cell? ⟨W.heap.size, 2, none⟩ = some (.int .i64 p.1.hi) := by rw [hcv _ _ (by omega)]; simp
    have b0 : V.cell? ⟨W.heap.size + 1, 0, none⟩ = some (.int .i64 p.2.r) := by rw [hcv _ _ (by omega)]; simp
    have b1 : V.cell? ⟨W.heap.size + 1, 1, none⟩ = some (.int .i64 p.2.lo) := by rw [hcv _ _ (by omega)]; simp
    have b2 : V.cell? ⟨W.heap.size + 1, 2, none⟩ = some (.int .i64 p.2.hi) := by rw [hcv _ _ (by omega)]; simp
    rw [← hV]
    clear hV hcv h3
    have hE1 := h1; clear h1
    generalize W.heap.size = gA at *
    have hRd := Round.start eV w3.heap.size
    have hnn : w.heap.size < w.heap.size + 1 ∧ w.heap.size + 1 < w.heap.size + 1 + 1 ∧ w.heap.size + 1 + 1 < w3.heap.size ∧ w3.heap.size + 1 < gA := by omega
    generalize w.heap.size + 1 + 1 = n2 at *
    generalize w.heap.size + 1 = n1 at *
    obtain ⟨i1, i2, i3, i4, i5, i6⟩ := HP.out.1
    obtain ⟨j1, j2, j3, j4, j5, j6⟩ := HP.out.2
    have HAB := Lib.hid (And.intro a0 (And.intro a1 (And.intro a2 (And.intro b0 (And.intro b1 b2)))))
    gi_wp2
    refine wpIn_region_E2 (fun w' => Ext (V) w') [0, 1, 2, 3, 4, 5, 6, 7, 8, 9, 10, 11, 12, 13, 14, 15, 16, 17] 9 10 (by kernel_rfl) (by kernel_rfl) ((Ext.refl _).drew) ?_
    iterate 18
      first
        | (apply wpE_no
           focus (simp only [List.getElem?_toArray, List.getElem?_cons_zero, List.getElem?_cons_succ]; rfl)
           focus rfl
           focus (simp only [Act.put, List.setIfInBounds_toArray, List.set_cons_zero, List.set_cons_succ]; rfl))
        | (apply wpE_ex
           focus (simp only [List.getElem?_toArray, List.getElem?_cons_zero, List.getElem?_cons_succ]; rfl)
           focus rfl
           focus
             intro w1 hC Ψ hΨ
             have d := hSV.ext hC
             have q0 := hC.cell a0
             have q1 := hC.cell a1
             have q2 := hC.cell a2
             have q3 := hC.cell b0
             have q4 := hC.cell b1
             have q5 := hC.cell b2
             go_simp; (try (go_bits; (try go_simp)))
             exact hΨ
           focus (simp only [Act.put, List.setIfInBounds_toArray, List.set_cons_zero, List.set_cons_succ]; rfl))
    refine wpE_nil ?_
    refine ⟨fun v v' w' => Ext V w' ∧ ∃ g g', v = .pointer (some ⟨g, 0, none⟩) ∧ v' = .pointer (some ⟨g', 0, none⟩) ∧ g ≠ g' ∧ V.heap.size ≤ g ∧ V.heap.size ≤ g' ∧ Blk2 w' g (.int .i64 (loP p).1) (.int .i64 (loP p).2) ∧ Blk2 w' g' (.int .i64 (hiP p).1) (.int .i64 (hiP p).2), ?_, ?_⟩
    · change wpC _ _ _ _ _ 4 _ _ _
      refine wpC_two (i := 18) (j := 19) (by kernel_rfl) rfl rfl rfl rfl rfl rfl ?_ ?_
      · intro Ψ hΨ
        go_simp
        refine hΨ _ _ ((Ext.refl _).drew.alloc _) ?_
        clear hΨ
        refine wpC_one (i := 19) (by kernel_rfl) rfl rfl rfl ?_
        intro Ψ hΨ
        go_simp
        refine hΨ _ _ (((Ext.refl _).drew.alloc _).alloc _) ?_
        clear hΨ
        refine wpC_one (i := 20) (by kernel_rfl) rfl rfl rfl ?_
        intro Ψ hΨ
        go_simp
        refine hΨ _ _ (((Ext.refl _).drew.alloc _).alloc _) ?_
        clear hΨ
        refine wpC_one (i := 21) (by kernel_rfl) rfl rfl rfl ?_
        intro Ψ hΨ
        go_simp
        refine hΨ _ _ (((Ext.refl _).drew.alloc _).alloc _) ?_
        clear hΨ
        refine wpC_done (by kernel_rfl) ⟨_, _, rfl, ((Ext.refl _).drew.alloc _).alloc _, _, _, rfl, rfl, by omega, by omega, by omega, ?_, ?_⟩ _
        · rw [← kV]; exact (Blk2.new V _ _ 65).ext (((Ext.refl _).alloc _).drew)
        · rw [← kV]; have h := (Blk2.new (V.alloc (.cells #[.int .i64 (p.2.lo - p.1.hi), .int .i64 (2 * (p.2.r - p.1.r))] 65)) (.int .i64 (p.2.hi - p.1.lo)) (.int .i64 (2 * (p.2.r - p.1.r))) 65).ext ((Ext.refl _).drew); rw [World.size_alloc] at h; exact h
      · intro Ψ hΨ
        go_simp
        refine hΨ _ _ ((Ext.refl _).drew.alloc _) ?_
        clear hΨ
        refine wpC_one (i := 18) (by kernel_rfl) rfl rfl rfl ?_
        intro Ψ hΨ
        go_simp
        refine hΨ _ _ (((Ext.refl _).drew.alloc _).alloc _) ?_
        clear hΨ
        refine wpC_one (i := 20) (by kernel_rfl) rfl rfl rfl ?_
        intro Ψ hΨ
        go_simp
        refine hΨ _ _ (((Ext.refl _).drew.alloc _).alloc _) ?_
        clear hΨ
        refine wpC_one (i := 21) (by kernel_rfl) rfl rfl rfl ?_
        intro Ψ hΨ
        go_simp
        refine hΨ _ _ (((Ext.refl _).drew.alloc _).alloc _) ?_
        clear hΨ
        refine wpC_done (by kernel_rfl) ⟨_, _, rfl, ((Ext.refl _).drew.alloc _).alloc _, _, _, rfl, rfl, by omega, by omega, by omega, ?_, ?_⟩ _
        · rw [← kV]; have h := (Blk2.new (V.alloc (.cells #[.int .i64 (p.2.hi - p.1.lo), .int .i64 (2 * (p.2.r - p.1.r))] 65)) (.int .i64 (p.2.lo - p.1.hi)) (.int .i64 (2 * (p.2.r - p.1.r))) 65).ext ((Ext.refl _).drew); rw [World.size_alloc] at h; exact h
        · rw [← kV]; exact (Blk2.new V _ _ 65).ext (((Ext.refl _).alloc _).drew)
    · rintro v v' w1 ⟨hC, g9, g10, rfl, rfl, hne, hg9, hg10, B9, B10⟩
      simp only [Act.put, List.setIfInBounds_toArray, List.set_cons_zero, List.set_cons_succ]
      have hR1 := hRd.grow hC
      have hS1 := hSV.ext hC
      have hb10 := B10.lt
      have hb9 := B9.lt
      have HS1 := Lib.hid (And.intro hR1 (And.intro hS1 (And.intro B9 B10))); clear hC hR1
      clear hS1 B9 B10
      clear a0 a1 a2 b0 b1 b2 hRd hSV
      have e1 : g9 ≠ w.heap.size := by omega
      have e2 : g10 ≠ w.heap.size := by omega
      have e3 : g9 ≠ n1 := by omega
      have e4 : g10 ≠ n1 := by omega
      have e5 : g9 ≠ n2 := by omega
      have e6 : g10 ≠ n2 := by omega
      have e7 : w.heap.size ≠ n1 := by omega
      have e8 : w.heap.size ≠ n2 := by omega
      have e9 : n1 ≠ n2 := by omega
      cases hbg : s.bg with
      | false =>
        obtain ⟨hRx, hSx, B9x, B10x⟩ := HS1.out
        obtain ⟨⟨x1, x2, x3, x4, x5⟩, ⟨y1, y2, y3, y4, y5⟩, z1, z2, z3⟩ := hSx
        obtain ⟨u1, u2, u3, u4, u5⟩ := B9x
        obtain ⟨t1, t2, t3, t4, t5⟩ := B10x
        clear hRx
        rw [hbg] at z1
        gi_wp2
        have hF : slowS s p = ⟨loP p, hiP p, true⟩ := by simp [slowS, *]
        have r := (((((HS1.out.1.set (g := w.heap.size) (by omega) (by omega) 0 (.int .i64 (loP p).1)).set (g := w.heap.size) (by omega) (by omega) 1 (.int .i64 (loP p).2)).set (g := n1) (by omega) (by omega) 0 (.int .i64 (hiP p).1)).set (g := n1) (by omega) (by omega) 1 (.int .i64 (hiP p).2)).set (g := n2) (by omega) (by omega) 0 (.bool true))
        have q := (((HS1.out.2.1.putLe (by omega) (by omega) (loP p)).putMo (by omega) (by omega) (hiP p)).putBg (by omega) (by omega) true)
        exact ⟨⟨r.ext, (by have := r.size; omega), (by rw [HSN.out, hF]; exact q)⟩, r.size, r.keep⟩
      | true =>
        obtain ⟨hRx, hSx, B9x, B10x⟩ := HS1.out
        obtain ⟨⟨x1, x2, x3, x4, x5⟩, ⟨y1, y2, y3, y4, y5⟩, z1, z2, z3⟩ := hSx
        obtain ⟨u1, u2, u3, u4, u5⟩ := B9x
        obtain ⟨t1, t2, t3, t4, t5⟩ := B10x
        clear hRx
        rw [hbg] at z1
        gi_wp2
        obtain ⟨hRo, hSo, hB9, hB10⟩ := HS1.out
        clear x1 x2 x3 x4 x5 y1 y2 y3 y4 y5 z1 z2 z3 u1 u2 u3 u4 u5 t1 t2 t3 t4 t5
        refine CallsIn.inRound _ (callsIn_wide.2 ((less_s HM.out.1.1 HM.out.2.1 _).mono ?_))
        rintro e A2 ⟨rfl, hE2⟩
        have HS2 := Lib.hid (And.intro (hRo.grow hE2) (And.intro (hSo.ext hE2) (And.intro (hB9.ext hE2) (hB10.ext hE2))))
        clear hE2
        clear hRo hSo hB9 hB10
        cases hl1 : lessB s.le (loP p) with
        | false =>
          obtain ⟨hRx, hSx, B9x, B10x⟩ := HS2.out
          obtain ⟨⟨x1, x2, x3, x4, x5⟩, ⟨y1, y2, y3, y4, y5⟩, z1, z2, z3⟩ := hSx
          obtain ⟨u1, u2, u3, u4, u5⟩ := B9x
          obtain ⟨t1, t2, t3, t4, t5⟩ := B10x
          clear hRx
          rw [hbg] at z1
          gi_wp2
          obtain ⟨hRo, hSo, hB9, hB10⟩ := HS2.out
          clear x1 x2 x3 x4 x5 y1 y2 y3 y4 y5 z1 z2 z3 u1 u2 u3 u4 u5 t1 t2 t3 t4 t5
          refine CallsIn.inRound _ (callsIn_wide.2 ((less_s HM.out.2.2 HM.out.1.2 _).mono ?_))
          rintro e A3 ⟨rfl, hE2⟩
          have HS3 := Lib.hid (And.intro (hRo.grow hE2) (And.intro (hSo.ext hE2) (And.intro (hB9.ext hE2) (hB10.ext hE2))))
          clear hE2
          clear hRo hSo hB9 hB10
          cases hl2 : lessB (hiP p) s.mo with
          | false =>
            obtain ⟨hRx, hSx, B9x, B10x⟩ := HS3.out
            obtain ⟨⟨x1, x2, x3, x4, x5⟩, ⟨y1, y2, y3, y4, y5⟩, z1, z2, z3⟩ := hSx
            obtain ⟨u1, u2, u3, u4, u5⟩ := B9x
            obtain ⟨t1, t2, t3, t4, t5⟩ := B10x
            clear hRx
            rw [hbg] at z1
            gi_wp2
            have hF : slowS s p = ⟨s.le, s.mo, true⟩ := by simp [slowS, *]
            have r := (HS3.out.1.set (g := n2) (by omega) (by omega) 0 (.bool true))
            have q := (HS3.out.2.1.putBg (by omega) (by omega) true)
            exact ⟨⟨r.ext, (by have := r.size; omega), (by rw [HSN.out, hF]; exact q)⟩, r.size, r.keep⟩
          | true =>
            obtain ⟨hRx, hSx, B9x, B10x⟩ := HS3.out
            obtain ⟨⟨x1, x2, x3, x4, x5⟩, ⟨y1, y2, y3, y4, y5⟩, z1, z2, z3⟩ := hSx
            obtain ⟨u1, u2, u3, u4, u5⟩ := B9x
            obtain ⟨t1, t2, t3, t4, t5⟩ := B10x
            clear hRx
            rw [hbg] at z1
            gi_wp2
            have hF : slowS s p = ⟨s.le, hiP p, true⟩ := by simp [slowS, *]
            have r := (((HS3.out.1.set (g := n1) (by omega) (by omega) 0 (.int .i64 (hiP p).1)).set (g := n1) (by omega) (by omega) 1 (.int .i64 (hiP p).2)).set (g := n2) (by omega) (by omega) 0 (.bool true))
            have q := ((HS3.out.2.1.putMo (by omega) (by omega) (hiP p)).putBg (by omega) (by omega) true)
            exact ⟨⟨r.ext, (by have := r.size; omega), (by rw [HSN.out, hF]; exact q)⟩, r.size, r.keep⟩

        | true =>
          obtain ⟨hRx, hSx, B9x, B10x⟩ := HS2.out
          obtain ⟨⟨x1, x2, x3, x4, x5⟩, ⟨y1, y2, y3, y4, y5⟩, z1, z2, z3⟩ := hSx
          obtain ⟨u1, u2, u3, u4, u5⟩ := B9x
          obtain ⟨t1, t2, t3, t4, t5⟩ := B10x
          clear hRx
          rw [hbg] at z1
          gi_wp2
          have hRo := (HS2.out.1.set (g := w.heap.size) (by omega) (by omega) 0 (.int .i64 (loP p).1)).set (g := w.heap.size) (by omega) (by omega) 1 (.int .i64 (loP p).2)
          have hSo := HS2.out.2.1.putLe (by omega) (by omega) (loP p)
          have hB9 := HS2.out.2.2.1.far e1 (.int .i64 (loP p).1) (.int .i64 (loP p).2)
          have hB10 := HS2.out.2.2.2.far e2 (.int .i64 (loP p).1) (.int .i64 (loP p).2)
          clear x1 x2 x3 x4 x5 y1 y2 y3 y4 y5 z1 z2 z3 u1 u2 u3 u4 u5 t1 t2 t3 t4 t5
          refine CallsIn.inRound _ (callsIn_wide.2 ((less_s HM.out.2.2 HM.out.1.2 _).mono ?_))
          rintro e A3 ⟨rfl, hE2⟩
          have HS3 := Lib.hid (And.intro (hRo.grow hE2) (And.intro (hSo.ext hE2) (And.intro (hB9.ext hE2) (hB10.ext hE2))))
          clear hE2
          clear hRo hSo hB9 hB10
          cases hl2 : lessB (hiP p) s.mo with
          | false =>
            obtain ⟨hRx, hSx, B9x, B10x⟩ := HS3.out
            obtain ⟨⟨x1, x2, x3, x4, x5⟩, ⟨y1, y2, y3, y4, y5⟩, z1, z2, z3⟩ := hSx
            obtain ⟨u1, u2, u3, u4, u5⟩ := B9x
            obtain ⟨t1, t2, t3, t4, t5⟩ := B10x
            clear hRx
            rw [hbg] at z1
            gi_wp2
            have hF : slowS s p = ⟨loP p, s.mo, true⟩ := by simp [slowS, *]
            have r := (HS3.out.1.set (g := n2) (by omega) (by omega) 0 (.bool true))
            have q := (HS3.out.2.1.putBg (by omega) (by omega) true)
            exact ⟨⟨r.ext, (by have := r.size; omega), (by rw [HSN.out, hF]; exact q)⟩, r.size, r.keep⟩
          | true =>
            obtain ⟨hRx, hSx, B9x, B10x⟩ := HS3.out
            obtain ⟨⟨x1, x2, x3, x4, x5⟩, ⟨y1, y2, y3, y4, y5⟩, z1, z2, z3⟩ := hSx
            obtain ⟨u1, u2, u3, u4, u5⟩ := B9x
            obtain ⟨t1, t2, t3, t4, t5⟩ := B10x
            clear hRx
            rw [hbg] at z1
            gi_wp2
            have hF : slowS s p = ⟨loP p, hiP p, true⟩ := by simp [slowS, *]
            have r := (((HS3.out.1.set (g := n1) (by omega) (by omega) 0 (.int .i64 (hiP p).1)).set (g := n1) (by omega) (by omega) 1 (.int .i64 (hiP p).2)).set (g := n2) (by omega) (by omega) 0 (.bool true))
            have q := ((HS3.out.2.1.putMo (by omega) (by omega) (hiP p)).putBg (by omega) (by omega) true)
            exact ⟨⟨r.ext, (by have := r.size; omega), (by rw [HSN.out, hF]; exact q)⟩, r.size, r.keep⟩


  · rintro W ⟨h1, h2, h3⟩ hlt hdf
    have hsm := small_slow items slow0 small_zero small_zero HPO.out
    change Small (slowL items).le ∧ Small (slowL items).mo at hsm
    obtain ⟨s, hsl⟩ : ∃ s, slowL items = s := ⟨_, rfl⟩
    rw [hsl] at hsm h3
    have HSL := Lib.hid hsl; clear hsl
    have HM := Lib.hid hsm; clear hsm hit HPO hS3
    have hnn : w.heap.size < w.heap.size + 1 ∧ w.heap.size + 1 < w.heap.size + 1 + 1 ∧ w.heap.size + 1 + 1 < w3.heap.size := by omega
    generalize w.heap.size + 1 + 1 = n2 at *
    generalize w.heap.size + 1 = n1 at *
    gi_wp2
    refine wpIn_wide.2 ?_
    have hD : DoneW w w3.heap.size w.heap.size n1 n2 s W := ⟨h1, hdf, h3⟩
    clear h1 hdf h3 hlt h2 hitm
    refine wp_region_T (R := fun x y => DoneW w w3.heap.size w.heap.size n1 n2 s x → DoneW w w3.heap.size w.heap.size n1 n2 s y) (DoneW w w3.heap.size w.heap.size n1 n2 s) [(0, 0), (1, 0), (2, 0), (3, 0), (4, 0), (5, 0), (6, 0), (7, 0), (8, 0)] (by kernel_rfl) (by kernel_rfl) (fun _ _ h k => h k) (hD.grow (Ext.refl _).drew) ?_
    iterate 9
      first
        | (apply wpT_no
           focus (simp only [List.getElem?_toArray, List.getElem?_cons_zero, List.getElem?_cons_succ]; rfl)
           focus rfl
           focus (simp only [Act.put, List.setIfInBounds_toArray, List.set_cons_zero, List.set_cons_succ]; rfl))
        | (apply wpT_ex
           focus (simp only [List.getElem?_toArray, List.getElem?_cons_zero, List.getElem?_cons_succ]; rfl)
           focus rfl
           focus
             intro w1 hC Ψ hΨ
             obtain ⟨⟨x1, x2, x3, x4, x5⟩, ⟨y1, y2, y3, y4, y5⟩, z1, z2, z3⟩ := hC.sw
             go_simp
             first
               | exact hΨ _ (fun h => h)
               | exact hΨ _ (fun h => h.putLe (by omega) (by omega) (by omega) (by omega))
               | exact hΨ _ (fun h => h.putMo (by omega) (by omega) (by omega) (by omega))
               | (go_at_call 51; refine (less_s HM.out.2 HM.out.1 _).mono ?_; rintro e w2 ⟨rfl, hE2⟩; exact ⟨_, rfl, hΨ _ (fun h => h.grow hE2)⟩)
           focus (simp only [Act.put, List.setIfInBounds_toArray, List.set_cons_zero, List.set_cons_succ]; rfl))
    refine wpT_nil ?_
    intro w1 hC
    obtain ⟨hE, hdf, hSW⟩ := hC
    gi_wp2
    refine ⟨by simp, .inl ⟨_, _, rfl, run_takeDeferred hdf, ?_⟩⟩
    have hP := hSW.putObj (k := w3.heap.size) (by omega) (by omega) (by omega) (.deferred none)
    have hEP : Ext w (w1.putObj w3.heap.size (.deferred none)) := ext_putObj_new hE (by omega)
    generalize w1.putObj w3.heap.size (.deferred none) = w9 at *
    obtain ⟨⟨x1, x2, x3, x4, x5⟩, ⟨y1, y2, y3, y4, y5⟩, z1, z2, z3⟩ := hP
    refine ⟨.tuple #[aggP s.le, aggP s.mo, .bool (!lessB s.mo s.le)], ?_, by rw [HSL.out], hEP⟩
    simp [results, Try.results27, go_sem, x1, x2, y1, y2, aggP]
end Go.Proofs.Ytgolkffigoabhaa
namespace Go.Proofs.Ytgolkffigoabhaa
open Go.RowKit

def AscA (l : List Arc) : Prop := l.Pairwise fun a b => a.r < b.r
theorem rngE_zero {lo hi a b : Int} : rngE lo hi a b = 0 ↔ a ≤ lo ∧ lo ≤ b ∧ a ≤ hi ∧ hi ≤ b ∧ lo ≤ hi := by
  unfold rngE
  by_cases h1 : a ≤ lo ∧ lo ≤ b
  · rw [if_neg (by simpa using h1)]
    by_cases h2 : a ≤ hi ∧ hi ≤ b
    · rw [if_neg (by simpa using h2)]
      by_cases h3 : hi < lo
      · rw [if_pos h3]; simp; omega
      · rw [if_neg h3]; simp; omega
    · rw [if_pos h2]; simp; omega
  · rw [if_pos h1]; simp; omega
theorem arcBad_zero {x : Arc} : arcBad x = 0 ↔ ArcOk x ∧ x.lo ≤ x.hi := by
  have h := rngE_zero (lo := x.lo) (hi := x.hi) (a := 0) (b := 1000000000000)
  simp only [arcBad, firstE, rgd, ArcOk]
  generalize rngE x.lo x.hi 0 1000000000000 = r at *
  by_cases h1 : 1 ≤ x.r ∧ x.r ≤ 100000
  · rw [show (decide (1 ≤ x.r) && decide (x.r ≤ 100000)) = true by simpa using h1]
    by_cases h2 : r = 0
    · have := h.1 h2
      simp [h2]; omega
    · have : ¬ (0 ≤ x.lo ∧ x.lo ≤ 1000000000000 ∧ 0 ≤ x.hi ∧ x.hi ≤ 1000000000000 ∧ x.lo ≤ x.hi) := fun k => h2 (h.2 k)
      simp [h2]; omega
  · rw [show (decide (1 ≤ x.r) && decide (x.r ≤ 100000)) = false by rw [← Bool.not_eq_true]; simpa using h1]
    simp
    omega
theorem ckArcs_ok : ∀ (l : List Arc) (i : Nat) (p : Option Int), (ckArcs i p l).2 = 0 → (∀ x ∈ l, ArcOk x ∧ x.lo ≤ x.hi) ∧ AscA l ∧ ∀ d, p = some d → ∀ x ∈ l, d < x.r
  | [], _, _, _ => ⟨by simp, List.Pairwise.nil, by simp⟩
  | x :: xs, i, p, h => by
    unfold ckArcs at h
    by_cases h1 : arcBad x ≠ 0
    · rw [if_pos h1] at h; exact absurd h h1
    rw [if_neg h1] at h
    have hx := arcBad_zero.1 (by simpa using h1)
    cases p with
    | none =>
      simp only [ordBad, Bool.false_eq_true, if_false] at h
      obtain ⟨k1, k2, k3⟩ := ckArcs_ok xs _ _ h
      exact ⟨by intro y hy; rcases List.mem_cons.1 hy with rfl | hy; exact hx; exact k1 y hy, List.Pairwise.cons (fun y hy => k3 x.r rfl y hy) k2, by simp⟩
    | some d =>
      by_cases h2 : x.r ≤ d
      · rw [if_pos (by simpa [ordBad] using h2)] at h; simp at h
      rw [if_neg (by simpa [ordBad] using h2)] at h
      obtain ⟨k1, k2, k3⟩ := ckArcs_ok xs _ _ h
      refine ⟨by intro y hy; rcases List.mem_cons.1 hy with rfl | hy; exact hx; exact k1 y hy, List.Pairwise.cons (fun y hy => k3 x.r rfl y hy) k2, ?_⟩
      rintro d' ⟨⟩ y hy
      rcases List.mem_cons.1 hy with rfl | hy
      · omega
      · have := k3 x.r rfl y hy; omega
structure ArcsOk (l : List Arc) : Prop where
  two : 2 ≤ l.length
  few : l.length ≤ 12
  ok : ∀ x ∈ l, ArcOk x ∧ x.lo ≤ x.hi
  asc : AscA l
theorem ckArcs_num : ∀ (l : List Arc) (i : Nat) (p : Option Int), (ckArcs i p l).2 = 0 → (ckArcs i p l).1 = 0
  | [], _, _, _ => rfl
  | x :: xs, i, p, h => by
    unfold ckArcs at h ⊢
    split at h
    · rename_i h1; exact absurd h h1
    · rename_i h1
      rw [if_neg h1]
      split at h
      · simp at h
      · rename_i h2
        rw [if_neg h2]
        exact ckArcs_num xs _ _ h
theorem ckA_ok {l : List Arc} (h : (ckA l).2 = 0) : ArcsOk l ∧ (ckA l).1 = 0 := by
  unfold ckA at h ⊢
  by_cases h0 : l.length < 2
  · rw [if_pos h0] at h; simp at h
  rw [if_neg h0] at h ⊢
  by_cases h1 : 12 < l.length
  · rw [if_pos h1] at h; simp at h
  rw [if_neg h1] at h ⊢
  obtain ⟨k1, k2, _⟩ := ckArcs_ok l _ _ h
  exact ⟨⟨by omega, by omega, k1, k2⟩, ckArcs_num l _ _ h⟩

theorem pairsTo_asc {l : List Arc} (h : AscA l) : ∀ k, k ≤ l.length → ∀ p ∈ pairsTo l k, p.1.r < p.2.r
  | 0, _ => by simp [pairsTo]
  | k + 1, hk => by
    intro p hp
    simp only [pairsTo, List.mem_append, List.mem_map] at hp
    rcases hp with hp | ⟨a, ha, rfl⟩
    · exact pairsTo_asc h k (by omega) p hp
    · obtain ⟨i, hi, rfl⟩ := List.mem_iff_getElem.1 ha
      have hik : i < k := by rw [List.length_take] at hi; omega
      rw [show l.getD k ⟨0, 0, 0⟩ = l[k] by simp [show k < l.length by omega], List.getElem_take]
      exact List.pairwise_iff_getElem.1 h i k (by omega) (by omega) hik
theorem slow_bg : ∀ (xs : List (Arc × Arc)) (s : Slow), s.bg = true → (xs.foldl slowS s).bg = true
  | [], _, h => h
  | p :: xs, s, _ => slow_bg xs (slowS s p) rfl
theorem slow_den : ∀ (xs : List (Arc × Arc)) (s : Slow), (s.bg = true → 1 ≤ s.le.2 ∧ 1 ≤ s.mo.2) → (∀ p ∈ xs, p.1.r < p.2.r) → (xs.foldl slowS s).bg = true → 1 ≤ (xs.foldl slowS s).le.2 ∧ 1 ≤ (xs.foldl slowS s).mo.2
  | [], _, h, _, hb => h hb
  | p :: xs, s, h, hx, hb => by
    have hp := hx p (by simp)
    refine slow_den xs (slowS s p) (fun _ => ?_) (fun q hq => hx q (by simp [hq])) hb
    unfold slowS
    dsimp only
    cases hbg : s.bg with
    | false => simp only [Bool.not_false, Bool.true_or, if_true, loP, hiP, wayP]; omega
    | true =>
      obtain ⟨h1, h2⟩ := h hbg
      simp only [Bool.not_true, Bool.false_or]
      constructor
      · split
        · simp only [loP, wayP]; omega
        · exact h1
      · split
        · simp only [hiP, wayP]; omega
        · exact h2
theorem slowL_den {l : List Arc} (h : ArcsOk l) : 1 ≤ (slowL (pairsTo l l.length)).le.2 ∧ 1 ≤ (slowL (pairsTo l l.length)).mo.2 := by
  refine slow_den _ _ (by simp [slow0]) (pairsTo_asc h.asc _ (Nat.le_refl _)) ?_
  have hp : pairsTo l 2 <+: pairsTo l l.length := pairsTo_prefix l h.two
  have h2 : pairsTo l 2 = [(l.getD 0 ⟨0, 0, 0⟩, l.getD 1 ⟨0, 0, 0⟩)] := by
    have := h.two
    obtain ⟨a, b, t, rfl⟩ : ∃ a b t, l = a :: b :: t := by
      match l, this with
      | a :: b :: t, _ => exact ⟨a, b, t, rfl⟩
    simp [pairsTo]
  obtain ⟨t, ht⟩ := hp
  rw [← ht, h2]
  exact slow_bg _ (slowS slow0 _) rfl

def perS (d : Int) : Int := 10000000 * d
theorem over_p (n d : Int) (w : World) (h1 : -200000 ≤ d) (h2 : d ≤ 200000) :
    Calls Try.prog 33 #[.agg #[.int .i64 n, .int .i64 d], .int .i64 10000000] w fun e w' => e = .returned (.agg #[.int .i64 (perS d), .int .i64 n]) ∧ Ext w w' :=
  over_c n d 10000000 w (by omega) (by omega)
theorem enc_p (n d : Int) (w : World) (h0 : 1 ≤ n) (h1 : -200000 ≤ d) (h2 : d ≤ 200000) :
    Calls Try.prog 34 #[.agg #[.int .i64 (perS d), .int .i64 n]] w fun e w' => e = .returned (.agg #[.int .i64 (enc (perS d, n)).1, .int .i64 (enc (perS d, n)).2]) ∧ Ext w w' :=
  enclosed_c (perS d) n w h0 (by unfold perS; omega) (by unfold perS; omega)
attribute [local irreducible] perS enc
def slowOf (l : List Arc) : Slow := slowL (pairsTo l l.length)
def speedR (l : List Arc) : (Int × Int) × Int :=
  if (ckA l).2 ≠ 0 then ((0, 0), (ckA l).2) else if lessB (slowOf l).mo (slowOf l).le = true then ((0, 0), 12) else if (slowOf l).le.1 ≤ 0 then ((0, 0), 11)
  else (((enc (perS (slowOf l).mo.2, (slowOf l).mo.1)).1, (enc (perS (slowOf l).le.2, (slowOf l).le.1)).2), 0)
theorem slow_spd {s : Slow} (h1 : 1 ≤ s.le.2) (h2 : 1 ≤ s.mo.2) (h3 : 1 ≤ s.le.1) (h4 : lessB s.mo s.le = false) : 1 ≤ s.mo.1 := by
  have h5 : ¬ (s.mo.1 * s.le.2 < s.le.1 * s.mo.2) := by simpa [lessB] using h4
  have h6 : 1 * 1 ≤ s.le.1 * s.mo.2 := Int.mul_le_mul h3 h2 (by omega) (by omega)
  by_cases h0 : 0 < s.mo.1
  · omega
  · have h : s.mo.1 ≤ 0 := by omega
    have := Int.mul_nonpos_of_nonpos_of_nonneg h (show 0 ≤ s.le.2 by omega)
    omega

set_option maxRecDepth 100000 in
set_option maxHeartbeats 2000000 in
theorem SpeedRange_c (l : List Arc) (A : Option Addr) (c : Nat) (w : World) (h : ArcsS w A l) (hc : l.length ≤ c) :
    Calls Try.prog 10 #[.slice A l.length c] w fun e w' => e = .returned (.tuple #[.agg #[.int .i64 (speedR l).1.1, .int .i64 (speedR l).1.2], .int .i64 (speedR l).2]) ∧ Ext w w' := by
  have ho := open_c l A c (w.alloc (.cells #[.int .i64 0, .int .i64 0] 27)) (h.ext ((Ext.refl w).alloc _))
  have HO := Lib.hid ho; clear ho
  by_cases he : (ckA l).2 = 0
  · have hok := (ckA_ok he).1
    have hz : speedR l = if lessB (slowOf l).mo (slowOf l).le = true then ((0, 0), 12) else if (slowOf l).le.1 ≤ 0 then ((0, 0), 11)
        else (((enc (perS (slowOf l).mo.2, (slowOf l).mo.1)).1, (enc (perS (slowOf l).le.2, (slowOf l).le.1)).2), 0) := by simp [speedR, he]
    rw [he] at HO
    obtain ⟨b, off, rfl, hbl, hR⟩ := h.resolve_left (fun e => by have := hok.two; rw [e] at this; simp at this)
    have hdn := slowL_den hok
    have hsm := small_slow (pairsTo l l.length) slow0 small_zero small_zero (pairsTo_ok (fun x hx => (hok.ok x hx).1) _ (Nat.le_refl _))
    have hsl : ∀ w' : World, Ext w w' → Calls Try.prog 27 #[.slice (some ⟨b, off, none⟩) l.length c] w' fun e w'' =>
        e = .returned (.tuple #[aggP (slowOf l).le, aggP (slowOf l).mo, .bool (!lessB (slowOf l).mo (slowOf l).le)]) ∧ Ext w' w'' :=
      fun w' hE => slowness_c l b off c w' (Nat.lt_of_lt_of_le hbl hE.size) (hR.ext hE) hok.few hc (fun x hx => (hok.ok x hx).1)
    change Small (slowOf l).le ∧ Small (slowOf l).mo at hsm
    change 1 ≤ (slowOf l).le.2 ∧ 1 ≤ (slowOf l).mo.2 at hdn
    clear hR
    generalize slowOf l = s at *
    simp only [aggP] at hsl
    have HSL := Lib.hid hsl; clear hsl
    have HZ := Lib.hid hz; clear hz
    obtain ⟨dn1, dn2⟩ := hdn
    obtain ⟨⟨s1, s2, s3, s4⟩, s5, s6, s7, s8⟩ := hsm
    have hE0 : Ext w (w.alloc (.cells #[.int .i64 0, .int .i64 0] 27)) := (Ext.refl w).alloc _
    have HE0 := Lib.hid hE0; clear hE0
    cases hp : lessB s.mo s.le with
    | true =>
      rw [hp] at HZ HSL
      go_enter Try.func10, Try.ntmps10
      go_wp2_with (first | (go_at_call 21; refine HO.out.mono ?_; go_must (rintro e W ⟨rfl, hE1⟩; have B := (Blk2.new w (.int .i64 0) (.int .i64 0) 27).ext hE1; obtain ⟨q1, q2, q3, q4, q5⟩ := B; have hE : Ext w W := HE0.out.trans hE1; have HE := Lib.hid hE; clear hE hE1)) | (go_at_call 27; refine (HSL.out _ HE.out).mono ?_; go_must (rintro e W2 ⟨rfl, hE2⟩; have B2 : Blk2 W2 w.heap.size (.int .i64 0) (.int .i64 0) := Blk2.ext ⟨q1, q2, q3, q4, q5⟩ hE2; clear q1 q2 q3 q4 q5; obtain ⟨q1, q2, q3, q4, q5⟩ := B2; have hE3 := HE.out.trans hE2; have HE3 := Lib.hid hE3; clear hE2 hE3)))
      rw [HZ.out]
      refine bodyPost_ret (v := .tuple #[.agg #[.int .i64 0, .int .i64 0], .int .i64 12]) (by simp [results, Try.results10, go_sem, World.cell?_alloc_lt, q1, q2, q5]) rfl ⟨rfl, ?_⟩
      exact ((set2 HE3.out (by simp) (by simp) _ _).alloc _).alloc _
    | false =>
      rw [hp] at HZ HSL
      by_cases h0 : s.le.1 ≤ 0
      · have hz : speedR l = ((0, 0), 11) := by rw [HZ.out]; simp [h0]
        have HZ2 := Lib.hid hz; clear hz
        go_enter Try.func10, Try.ntmps10
        go_wp2_with (first | (go_at_call 21; refine HO.out.mono ?_; go_must (rintro e W ⟨rfl, hE1⟩; have B := (Blk2.new w (.int .i64 0) (.int .i64 0) 27).ext hE1; obtain ⟨q1, q2, q3, q4, q5⟩ := B; have hE : Ext w W := HE0.out.trans hE1; have HE := Lib.hid hE; clear hE hE1)) | (go_at_call 27; refine (HSL.out _ HE.out).mono ?_; go_must (rintro e W2 ⟨rfl, hE2⟩; have B2 : Blk2 W2 w.heap.size (.int .i64 0) (.int .i64 0) := Blk2.ext ⟨q1, q2, q3, q4, q5⟩ hE2; clear q1 q2 q3 q4 q5; obtain ⟨q1, q2, q3, q4, q5⟩ := B2; have hE3 := HE.out.trans hE2; have HE3 := Lib.hid hE3; clear hE2 hE3)))
        rw [HZ2.out]
        refine bodyPost_ret (v := .tuple #[.agg #[.int .i64 0, .int .i64 0], .int .i64 11]) (by simp [results, Try.results10, go_sem, World.cell?_alloc_lt, q1, q2, q5]) rfl ⟨rfl, ?_⟩
        exact (((set2 HE3.out (by simp) (by simp) _ _).alloc _).alloc _)
      · have hz : speedR l = (((enc (perS s.mo.2, s.mo.1)).1, (enc (perS s.le.2, s.le.1)).2), 0) := by rw [HZ.out]; simp [h0]
        have HZ2 := Lib.hid hz; clear hz
        have k1 : 1 ≤ s.le.1 := by omega
        have k2 := slow_spd dn1 dn2 k1 hp
        go_enter Try.func10, Try.ntmps10
        go_wp2_with (first | (go_at_call 21; refine HO.out.mono ?_; go_must (rintro e W ⟨rfl, hE1⟩; have B := (Blk2.new w (.int .i64 0) (.int .i64 0) 27).ext hE1; obtain ⟨q1, q2, q3, q4, q5⟩ := B; have hE : Ext w W := HE0.out.trans hE1; have HE := Lib.hid hE; clear hE hE1)) | (go_at_call 27; refine (HSL.out _ HE.out).mono ?_; go_must (rintro e W2 ⟨rfl, hE2⟩; have B2 : Blk2 W2 w.heap.size (.int .i64 0) (.int .i64 0) := Blk2.ext ⟨q1, q2, q3, q4, q5⟩ hE2; clear q1 q2 q3 q4 q5; obtain ⟨q1, q2, q3, q4, q5⟩ := B2; have hE3 := HE.out.trans hE2; have HE3 := Lib.hid hE3; clear hE2 hE3)))
        have e3 : Ext W2 ((W2.alloc (.cells #[.int .i64 s.le.1, .int .i64 s.le.2] 65)).alloc (.cells #[.int .i64 s.mo.1, .int .i64 s.mo.2] 65)) := ((Ext.refl _).alloc _).alloc _
        have B6 : Blk2 ((W2.alloc (.cells #[.int .i64 s.le.1, .int .i64 s.le.2] 65)).alloc (.cells #[.int .i64 s.mo.1, .int .i64 s.mo.2] 65)) W2.heap.size (.int .i64 s.le.1) (.int .i64 s.le.2) := (Blk2.new W2 _ _ _).ext ((Ext.refl _).alloc _)
        have B7 := Blk2.new (W2.alloc (.cells #[.int .i64 s.le.1, .int .i64 s.le.2] 65)) (.int .i64 s.mo.1) (.int .i64 s.mo.2) 65
        simp only [World.size_alloc] at B7
        generalize (W2.alloc (.cells #[.int .i64 s.le.1, .int .i64 s.le.2] 65)).alloc (.cells #[.int .i64 s.mo.1, .int .i64 s.mo.2] 65) = W3 at *
        obtain ⟨p1, p2, _, _, _⟩ := B6
        obtain ⟨p3, p4, _, _, _⟩ := B7
        have B3 : Blk2 W3 w.heap.size (.int .i64 0) (.int .i64 0) := Blk2.ext ⟨q1, q2, q3, q4, q5⟩ e3
        have hE4 := HE3.out.trans e3
        have HE4 := Lib.hid hE4; clear hE4 q1 q2 q3 q4 q5 e3
        obtain ⟨⟨a1, a2⟩, ⟨b1, b2⟩, bg⟩ := s
        simp only at *
        refine wp_region_Tt (R := Ext) 9 (fun w' => Ext (W3) w') [(0, 0), (1, 0), (2, 0), (3, 0), (4, 0), (5, 0), (6, 0), (7, 0), (8, 0)] (by kernel_rfl) (by kernel_rfl) (fun _ _ h k => k.trans h) ((Ext.refl _).drew) ?_
        iterate 9
          first
            | (apply wpT_no
               focus (simp only [List.getElem?_toArray, List.getElem?_cons_zero, List.getElem?_cons_succ]; rfl)
               focus rfl
               focus (simp only [Act.put, List.setIfInBounds_toArray, List.set_cons_zero, List.set_cons_succ]; rfl))
            | (apply wpT_ex
               focus (simp only [List.getElem?_toArray, List.getElem?_cons_zero, List.getElem?_cons_succ]; rfl)
               focus rfl
               focus
                 intro w1 hC Ψ hΨ
                 have d1 := hC.cell p1
                 have d2 := hC.cell p2
                 have d3 := hC.cell p3
                 have d4 := hC.cell p4
                 go_simp; (try (go_bits; (try go_simp)))
                 first
                   | exact hΨ _ (Ext.refl _)
                   | (go_at_call 33; with_reducible refine (over_p b1 b2 _ s7 s8).mono ?_; rintro e w2 ⟨rfl, hE2⟩; exact ⟨_, rfl, hΨ _ hE2⟩)
                   | (go_at_call 33; with_reducible refine (over_p a1 a2 _ s3 s4).mono ?_; rintro e w2 ⟨rfl, hE2⟩; exact ⟨_, rfl, hΨ _ hE2⟩)
                   | (go_at_call 34; with_reducible refine (enc_p b1 b2 _ k2 s7 s8).mono ?_; rintro e w2 ⟨rfl, hE2⟩; exact ⟨_, rfl, hΨ _ hE2⟩)
                   | (go_at_call 34; with_reducible refine (enc_p a1 a2 _ k1 s3 s4).mono ?_; rintro e w2 ⟨rfl, hE2⟩; exact ⟨_, rfl, hΨ _ hE2⟩)
               focus (simp only [Act.put, List.setIfInBounds_toArray, List.set_cons_zero, List.set_cons_succ]; rfl))
        refine wpT_nil ?_
        intro w1 hC
        simp only [List.drop_succ_cons, List.drop_zero]
        obtain ⟨q1, q2, q3, q4, q5⟩ := B3.ext hC
        have HE5 := Lib.hid (HE4.out.trans hC); clear hC p1 p2 p3 p4
        go_wp2
        rw [HZ2.out]
        refine bodyPost_ret (v := .tuple #[.agg #[.int .i64 (enc (perS b2, b1)).1, .int .i64 (enc (perS a2, a1)).2], .int .i64 0]) (by simp [results, Try.results10, go_sem, q1, q2, q5]) rfl ⟨rfl, ?_⟩
        exact set2 HE5.out (by simp) (by simp) _ _
  · generalize hr : (ckA l).2 = r at *
    have hz : speedR l = ((0, 0), r) := by simp [speedR, hr, he]
    have HZ := Lib.hid hz; clear hz
    have hb : (r == 0) = false := by simpa using he
    have hE0 : Ext w (w.alloc (.cells #[.int .i64 0, .int .i64 0] 27)) := (Ext.refl w).alloc _
    have HE0 := Lib.hid hE0; clear hE0
    go_enter Try.func10, Try.ntmps10
    go_wp2_with (go_at_call 21; refine HO.out.mono ?_; go_must (rintro e W ⟨rfl, hE1⟩; have B := (Blk2.new w (.int .i64 0) (.int .i64 0) 27).ext hE1; obtain ⟨q1, q2, q3, q4, q5⟩ := B; have hE : Ext w W := HE0.out.trans hE1; have HE := Lib.hid hE; clear hE hE1))
    rw [HZ.out]
    refine bodyPost_ret (v := .tuple #[.agg #[.int .i64 0, .int .i64 0], .int .i64 r]) (by simp [results, Try.results10, go_sem, World.cell?_alloc_lt, q1, q2, q5]) rfl ⟨rfl, ?_⟩
    exact set2 HE.out (by simp) (by simp) _ _
end Go.Proofs.Ytgolkffigoabhaa
