/- Regions that draw their order, third form: operations of one value that leave the world as it is are taken first, whatever comes between them; the rest is walked order by order from the one world that stands there; two slots that receive values of their own making are handed on. Conditions: none. -/
import Derived.Test.YtgdcidbpadhkpaaRegIn
set_option linter.unusedVariables false
set_option linter.unusedSimpArgs false
namespace Go.Proofs.Ytgdcidbpadhkpaa
open Go.RowKit

section
variable {P : Program} {ops : Array Oper} {md : Region.Mode}

def same (w w' : World) : Prop := w' = w

def wpOpY (P : Program) (ops : Array Oper) (i : Nat) (K : Act → World → Prop) (a : Act) (w : World) : Prop :=
  match ops[i]? with
  | none => False
  | some o => if Region.wanted o (yielded ops a.tmps) then yieldsC P o a w (fun v w' => K (a.put o.dst v) w') else K (a.put o.dst undef) w

def wpC (P : Program) (md : Region.Mode) (ops : Array Oper) (C : World → Prop) (F : Act → World → Prop) : Nat → Array Bool → Act → World → Prop
  | 0, listed, a, w => Region.ready md ops listed = [] ∧ F a w
  | f + 1, listed, a, w => (Region.ready md ops listed = [] → F a w) ∧ ∀ i ∈ Region.ready md ops listed, wpOpY P ops i (fun a' w' => C w' ∧ wpC P md ops C F f (listed.setIfInBounds i true) a' w') a w

theorem wpOpY_mono {i : Nat} {K K' : Act → World → Prop} {a : Act} {w : World} (h : ∀ a w, K a w → K' a w) (hh : wpOpY P ops i K a w) : wpOpY P ops i K' a w := by
  unfold wpOpY at *
  split
  · rename_i ho; simp only [ho] at hh
  · rename_i o ho
    simp only [ho] at hh
    split
    · rename_i hw; simp only [hw, if_true] at hh; exact yieldsC_mono hh fun v w' hk => h _ _ hk
    · rename_i hw; simp only [hw] at hh; exact h _ _ hh

theorem Exact.opY {C : World → Prop} {i : Nat} {oi : Oper} {v : Value} {a : Act} {w : World} {K : Act → World → Prop} (hi : ops[i]? = some oi) (hy : Exact P ops same C oi v a) (hC : C w) (h : K (a.put oi.dst v) w) : wpOpY P ops i K a w := by
  unfold wpOpY
  simp only [hi]
  rcases hy with ⟨hw, hy⟩ | ⟨hw, rfl⟩
  · simp only [hw, if_true]
    exact yieldsC_mono (hy w hC) fun u w' ⟨hu, hs⟩ => by subst hu; rw [show w' = w from hs]; exact h
  · simp only [hw, Bool.false_eq_true, if_false]
    exact h

theorem opY_put {j : Nat} {oi oj : Oper} {v : Value} {C : World → Prop} (hj : ops[j]? = some oj) (hap : oi.apart ops oj = true)
    (hsi : ∀ cs b, oi.op ≠ .select cs b) (hsj : ∀ cs b, oj.op ≠ .select cs b) {K : Act → World → Prop} {a : Act} {w : World}
    (hy : Exact P ops same C oi v a) (h : wpOpY P ops j K (a.put oi.dst v) w) :
    wpOpY P ops j (fun a' w' => Exact P ops same C oi v a' ∧ K (a'.put oi.dst v) w') a w := by
  obtain ⟨h1, h2, h3⟩ := Oper.apart_spec hap
  have keep : ∀ (a : Act), Exact P ops same C oi v a → ∀ u, Exact P ops same C oi v (a.put oj.dst u) := fun a hy u =>
    hy.of_same (execOp_put oi hsi a oj.dst u h3) (wanted_put oi a oj.dst u h3)
  unfold wpOpY at *
  simp only [hj] at *
  rw [wanted_put oj a oi.dst v h1] at h
  split
  · rename_i hw
    simp only [hw, if_true] at h
    refine yieldsC_congr (execOp_put oj hsj a oi.dst v h1).symm (yieldsC_mono h fun u w' hk => ⟨keep a hy u, ?_⟩)
    rw [← Act.put_comm a v u h2]
    exact hk
  · rename_i hw
    simp only [hw] at h
    exact ⟨keep a hy _, by rw [← Act.put_comm a v undef h2]; exact h⟩

theorem wpC_first {i : Nat} {oi : Oper} {v : Value} {C : World → Prop} {F : Act → World → Prop} (hi : ops[i]? = some oi) (hsel : ∀ (j : Nat) (o : Oper) cs b, ops[j]? = some o → o.op ≠ .select cs b) :
    ∀ (f : Nat) (listed : Array Bool) (a : Act) (w : World), C w →
      (∀ j oj, ops[j]? = some oj → j ≠ i → listed.getD j true = false → (∀ e ∈ oj.after, Region.binds md e = true → e.on ≠ i) → oi.apart ops oj = true) →
      i ∈ Region.ready md ops listed → Exact P ops same C oi v a →
      wpC P md ops C F f (listed.setIfInBounds i true) (a.put oi.dst v) w → wpC P md ops C F (f + 1) listed a w := by
  intro f
  induction f with
  | zero =>
    intro listed a w hC _ hr hy H
    refine ⟨fun h => (by rw [h] at hr; cases hr), fun j hj => ?_⟩
    by_cases hji : j = i
    · subst hji; exact hy.opY hi hC ⟨hC, H⟩
    · have := ready_mono hj hji
      rw [H.1] at this
      cases this
  | succ f ih =>
    intro listed a w hC hfree hr hy H
    have hun := (mem_ready.1 hr).1
    refine ⟨fun h => (by rw [h] at hr; cases hr), fun j hj => ?_⟩
    by_cases hji : j = i
    · subst hji; exact hy.opY hi hC ⟨hC, H⟩
    · have h1 := H.2 j (ready_mono hj hji)
      obtain ⟨hjun, oj, hoj, hall⟩ := mem_ready.1 hj
      have hnot : ∀ e ∈ oj.after, Region.binds md e = true → e.on ≠ i := fun e he hb heq => by
        have h1 := hall e he hb
        rw [heq, getD_both hun] at h1
        cases h1
      have h2 := opY_put hoj (hfree j oj hoj hji hjun hnot) (fun cs b => hsel i oi cs b hi) (fun cs b => hsel j oj cs b hoj) hy h1
      have hfree' : ∀ k ok, ops[k]? = some ok → k ≠ i → (listed.setIfInBounds j true).getD k true = false →
          (∀ e ∈ ok.after, Region.binds md e = true → e.on ≠ i) → oi.apart ops ok = true := fun k ok hk hki hun hno => by
        refine hfree k ok hk hki ?_ hno
        by_cases hjk : j = k
        · subst hjk; exact hjun
        · rw [getD_set_ne true hjk] at hun; exact hun
      refine wpOpY_mono (fun a' w' h3 => ⟨h3.2.1, ih (listed.setIfInBounds j true) a' w' h3.2.1 hfree' (ready_mono hr (Ne.symm hji)) h3.1 ?_⟩) h2
      rw [Array.setIfInBounds_comm _ _ hji]
      exact h3.2.2

/-- The operations of one value, in their order. -/
def wpE (P : Program) (ops : Array Oper) (C : World → Prop) (K : Act → Prop) : List Nat → Act → Prop
  | [], a => K a
  | i :: σ, a => match ops[i]? with
    | none => False
    | some o => if Region.wanted o (yielded ops a.tmps) then ∃ v, (∀ w, C w → yieldsC P o a w (fun u w' => u = v ∧ w' = w)) ∧ wpE P ops C K σ (a.put o.dst v)
      else wpE P ops C K σ (a.put o.dst undef)
theorem wpE_nil {C : World → Prop} {K : Act → Prop} {a : Act} (h : K a) : wpE P ops C K [] a := h
theorem wpE_ex {C : World → Prop} {K : Act → Prop} {a a' : Act} {i : Nat} {σ : List Nat} {o : Oper} {v : Value} (hi : ops[i]? = some o) (hw : Region.wanted o (yielded ops a.tmps) = true)
    (h : ∀ w, C w → ∀ Ψ : Value → World → Prop, Ψ v w → yieldsC P o a w Ψ) (ha : a.put o.dst v = a') (hr : wpE P ops C K σ a') : wpE P ops C K (i :: σ) a := by
  subst ha
  unfold wpE
  simp only [hi, hw, if_true]
  exact ⟨v, fun w hc => h w hc _ ⟨rfl, rfl⟩, hr⟩
theorem wpE_no {C : World → Prop} {K : Act → Prop} {a a' : Act} {i : Nat} {σ : List Nat} {o : Oper} (hi : ops[i]? = some o) (hw : Region.wanted o (yielded ops a.tmps) = false)
    (ha : a.put o.dst undef = a') (hr : wpE P ops C K σ a') : wpE P ops C K (i :: σ) a := by
  subst ha
  unfold wpE
  simp only [hi, hw, Bool.false_eq_true, if_false]
  exact hr

def orderE (md : Region.Mode) (ops : Array Oper) : List Nat → Array Bool → Bool
  | [], _ => true
  | i :: σ, listed => (Region.ready md ops listed).contains i && Region.free md ops listed i && orderE md ops σ (listed.setIfInBounds i true)
def listE : List Nat → Array Bool → Array Bool
  | [], listed => listed
  | i :: σ, listed => listE σ (listed.setIfInBounds i true)

theorem wpC_of_E {C : World → Prop} {F : Act → World → Prop} {K : Act → Prop} {g : Nat} {w : World} (hsel : Region.noSelect ops = true) (hC : C w) :
    ∀ (σ : List Nat) (listed : Array Bool) (a : Act), orderE md ops σ listed = true → (∀ a, K a → wpC P md ops C F g (listE σ listed) a w) → wpE P ops C K σ a →
      wpC P md ops C F (σ.length + g) listed a w
  | [], listed, a, _, hK, h => by rw [List.length_nil, Nat.zero_add]; exact hK a h
  | i :: σ, listed, a, hB, hK, h => by
    rw [List.length_cons, show σ.length + 1 + g = (σ.length + g) + 1 by omega]
    simp only [orderE, Bool.and_eq_true] at hB
    obtain ⟨⟨hr, hf⟩, hB'⟩ := hB
    have hr' : i ∈ Region.ready md ops listed := by simpa using hr
    unfold wpE at h
    cases ho : ops[i]? with
    | none => simp only [ho] at h
    | some o =>
      simp only [ho] at h
      by_cases hw : Region.wanted o (yielded ops a.tmps) = true
      · simp only [hw, if_true] at h
        obtain ⟨v, s1, s2⟩ := h
        exact wpC_first ho (Region.noSelect_spec hsel) _ _ _ _ hC (Region.free_spec ho hf) hr' (.inl ⟨hw, s1⟩) (wpC_of_E hsel hC σ _ _ hB' hK s2)
      · simp only [hw] at h
        have hw' : Region.wanted o (yielded ops a.tmps) = false := by simpa using hw
        exact wpC_first ho (Region.noSelect_spec hsel) _ _ _ _ hC (Region.free_spec ho hf) hr' (.inr ⟨hw', rfl⟩) (wpC_of_E hsel hC σ _ _ hB' hK h)

theorem wpC_mono {C : World → Prop} {F F' : Act → World → Prop} (hF : ∀ a w, F a w → F' a w) : ∀ (f : Nat) (listed : Array Bool) (a : Act) (w : World), wpC P md ops C F f listed a w → wpC P md ops C F' f listed a w
  | 0, _, _, _, h => ⟨h.1, hF _ _ h.2⟩
  | f + 1, _, _, _, h => ⟨fun h0 => hF _ _ (h.1 h0), fun i hi => wpOpY_mono (fun _ _ hk => ⟨hk.1, wpC_mono hF f _ _ _ hk.2⟩) (h.2 i hi)⟩

theorem wpAny_of_C {C : World → Prop} {Q : Exit → Act → World → Prop} : ∀ (f : Nat) (listed : Array Bool) (a : Act) (w : World), wpC P md ops C (Q .normal) f listed a w → wpAny P md ops Q f listed a w
  | 0, _, _, _, h => h
  | f + 1, listed, a, w, h => by
    refine ⟨h.1, fun i hi => ?_⟩
    have h1 := h.2 i hi
    unfold wpOpY at h1
    unfold wpOp
    cases ho : ops[i]? with
    | none => simp only [ho] at h1
    | some o =>
      simp only [ho] at h1 ⊢
      split
      · rename_i hwa
        simp only [hwa, if_true] at h1
        exact .inl (wp_of_yieldsC h1 fun v w' hk => wpAny_of_C f _ _ _ hk.2)
      · rename_i hwa
        simp only [hwa] at h1
        exact wpAny_of_C f _ _ _ h1.2
theorem wpAnyIn_of_C {fl fn : Nat} {C : World → Prop} {Q : Exit → Act → World → Prop} : ∀ (f : Nat) (listed : Array Bool) (a : Act) (w : World), wpC P md ops C (Q .normal) f listed a w → wpAnyIn (Fence.wide.inRound fl) fn P md ops Q f listed a w
  | 0, _, _, _, h => h
  | f + 1, listed, a, w, h => by
    refine ⟨h.1, fun i hi => ?_⟩
    have h1 := h.2 i hi
    unfold wpOpY at h1
    unfold wpOpIn
    cases ho : ops[i]? with
    | none => simp only [ho] at h1
    | some o =>
      simp only [ho] at h1 ⊢
      split
      · rename_i hwa
        simp only [hwa, if_true] at h1
        exact wpIn_of_yieldsC h1 fun v w' hk => wpAnyIn_of_C f _ _ _ hk.2
      · rename_i hwa
        simp only [hwa] at h1
        exact ⟨fun _ _ => trivial, wpAnyIn_of_C f _ _ _ h1.2⟩

/-- What is to be shown when the operations of one value are done: the rest, from this world on, ends with two values of its own making in the slots p and q; and the walk goes on with whatever two these are. -/
def twoE (P : Program) (ops : Array Oper) (C : World → Prop) (Q : Exit → Act → World → Prop) (w : World) (σ : List Nat) (p q : Nat) (a : Act) : Prop :=
  ∃ Ψ : Value → Value → World → Prop, wpC P .any ops C (fun a' w' => ∃ v v', a' = (a.put (some p) v).put (some q) v' ∧ Ψ v v' w') (ops.size - σ.length) (listE σ (Array.replicate ops.size false)) a w ∧
    ∀ v v' w', Ψ v v' w' → Q .normal ((a.put (some p) v).put (some q) v') w'

theorem wp_region_E2 {id : Nat} {Q : Exit → Act → World → Prop} {a : Act} {w : World} {l : List Oper} (C : World → Prop) (σ : List Nat) (p q : Nat) (hm : P.follows .mixedOrders = true) (hB : (Region.noSelect l.toArray && decide (σ.length ≤ l.toArray.size) && orderE .any l.toArray σ (Array.replicate l.toArray.size false)) = true)
    (hC : C w.drew) (h : wpE P l.toArray C (twoE P l.toArray C Q w.drew σ p q) σ a) : (Code.region id l.toArray true).wp P Q a w := by
  simp only [Bool.and_eq_true, decide_eq_true_eq] at hB
  obtain ⟨⟨hsel, hn⟩, hB⟩ := hB
  refine wp_region_any hm ?_
  have := wpC_of_E (F := Q .normal) (g := l.toArray.size - σ.length) hsel hC σ _ a hB (fun a ⟨Ψ, h1, h2⟩ => wpC_mono (fun a' w' ⟨v, v', e, hp⟩ => by subst e; exact h2 v v' w' hp) _ _ _ _ h1) h
  rw [show σ.length + (l.toArray.size - σ.length) = l.toArray.size by omega] at this
  exact wpAny_of_C _ _ _ _ this
theorem wpIn_region_E2 {fl fn id : Nat} {Q : Exit → Act → World → Prop} {a : Act} {w : World} {l : List Oper} (C : World → Prop) (σ : List Nat) (p q : Nat) (hm : P.follows .mixedOrders = true) (hB : (Region.noSelect l.toArray && decide (σ.length ≤ l.toArray.size) && orderE .any l.toArray σ (Array.replicate l.toArray.size false)) = true)
    (hC : C w.drew) (h : wpE P l.toArray C (twoE P l.toArray C Q w.drew σ p q) σ a) : (Code.region id l.toArray true).wpIn (Fence.wide.inRound fl) fn P Q a w := by
  simp only [Bool.and_eq_true, decide_eq_true_eq] at hB
  obtain ⟨⟨hsel, hn⟩, hB⟩ := hB
  refine wpIn_region_any hm ?_
  have := wpC_of_E (F := Q .normal) (g := l.toArray.size - σ.length) hsel hC σ _ a hB (fun a ⟨Ψ, h1, h2⟩ => wpC_mono (fun a' w' ⟨v, v', e, hp⟩ => by subst e; exact h2 v v' w' hp) _ _ _ _ h1) h
  rw [show σ.length + (l.toArray.size - σ.length) = l.toArray.size by omega] at this
  exact wpAnyIn_of_C _ _ _ _ this

theorem wpC_one {C : World → Prop} {F : Act → World → Prop} {f i : Nat} {listed listed' : Array Bool} {a : Act} {w : World} {o : Oper} (hr : Region.ready md ops listed = [i]) (hi : ops[i]? = some o) (hw : Region.wanted o (yielded ops a.tmps) = true) (hl : listed.setIfInBounds i true = listed')
    (h : ∀ Ψ : Value → World → Prop, (∀ v w', C w' → wpC P md ops C F f listed' (a.put o.dst v) w' → Ψ v w') → yieldsC P o a w Ψ) : wpC P md ops C F (f + 1) listed a w := by
  subst hl
  refine ⟨fun h0 => (by rw [hr] at h0; cases h0), fun j hj => ?_⟩
  rw [hr] at hj
  have hj2 : j = i := by simpa using hj
  subst hj2
  unfold wpOpY
  simp only [hi, hw, if_true]
  exact h _ fun v w' hc hk => ⟨hc, hk⟩
theorem wpC_two {C : World → Prop} {F : Act → World → Prop} {f i j : Nat} {listed listed' listed'' : Array Bool} {a : Act} {w : World} {o o' : Oper} (hr : Region.ready md ops listed = [i, j]) (hi : ops[i]? = some o) (hj : ops[j]? = some o') (hw : Region.wanted o (yielded ops a.tmps) = true)
    (hw' : Region.wanted o' (yielded ops a.tmps) = true) (hl : listed.setIfInBounds i true = listed') (hl' : listed.setIfInBounds j true = listed'')
    (h : ∀ Ψ : Value → World → Prop, (∀ v w', C w' → wpC P md ops C F f listed' (a.put o.dst v) w' → Ψ v w') → yieldsC P o a w Ψ)
    (h' : ∀ Ψ : Value → World → Prop, (∀ v w', C w' → wpC P md ops C F f listed'' (a.put o'.dst v) w' → Ψ v w') → yieldsC P o' a w Ψ) : wpC P md ops C F (f + 1) listed a w := by
  subst hl; subst hl'
  refine ⟨fun h0 => (by rw [hr] at h0; cases h0), fun k hk => ?_⟩
  rw [hr] at hk
  have hk2 : k = i ∨ k = j := by simpa using hk
  rcases hk2 with rfl | rfl
  · unfold wpOpY
    simp only [hi, hw, if_true]
    exact h _ fun v w' hc hk => ⟨hc, hk⟩
  · unfold wpOpY
    simp only [hj, hw', if_true]
    exact h' _ fun v w' hc hk => ⟨hc, hk⟩
theorem wpC_done {C : World → Prop} {F : Act → World → Prop} {listed : Array Bool} {a : Act} {w : World} (hr : Region.ready md ops listed = []) (h : F a w) : ∀ f, wpC P md ops C F f listed a w
  | 0 => ⟨hr, h⟩
  | _ + 1 => ⟨fun _ => h, by rw [hr]; simp⟩
end
attribute [irreducible] wpE wpC
end Go.Proofs.Ytgdcidbpadhkpaa
