/- The same region rules inside a round of a range over a function (the fence is the wide one, in a round). Conditions: none. -/
import Derived.Test.YtgdcidbpadhkpaaReg
import Derived.OrdersIn
import Derived.TacticsIn
import Derived.RangeFuncNested
set_option linter.unusedVariables false
set_option linter.unusedSimpArgs false
namespace Go.Proofs.Ytgdcidbpadhkpaa
open Go.RowKit

section
variable {P : Program} {ops : Array Oper} {md : Region.Mode} {R : World → World → Prop}

theorem not_defer_of_yields {o : Oper} {a : Act} {w : World} {Ψ : Value → World → Prop} (h : yieldsC P o a w Ψ) : ∀ c, o.op ≠ .defer c := by
  intro c hc
  unfold yieldsC execOp at h
  rw [hc] at h
  simp only [Sem.run_bind] at h
  generalize (resolve a.eval c o.type).run P w = r at h
  cases r <;> simp [Result.andThen, yieldsUpon] at h

theorem wpIn_of_yieldsC {l n : Nat} {o : Oper} {a : Act} {w : World} {Ψ : Value → World → Prop} {K : Act → World → Prop} {Q : Exit → Act → World → Prop}
    (h : yieldsC P o a w Ψ) (hK : ∀ v w', Ψ v w' → K (a.put o.dst v) w') : o.wpIn (Fence.wide.inRound l) n P a w K Q := by
  refine ⟨fun _ _ => trivial, ?_⟩
  rw [Oper.semAt_eq _ _ _ (not_defer_of_yields h)]
  unfold yieldsC at h
  generalize (execOp a.eval o).run P w = r at *
  cases r with
  | ok n w' =>
    cases n <;> simp only [yieldsUpon] at h <;> simp only [Oper.uponIn]
    case value u => exact hK _ _ h
    case skip => exact hK _ _ h
    case enter f args => exact ⟨fun hd => by simp [Fence.wide] at hd, CallsIn.inRound l (callsIn_wide.2 (h.mono fun e w'' ⟨u, he, hu⟩ => by subst he; exact hK _ _ hu))⟩
  | halt x w' => simp only [yieldsUpon] at h

theorem wpAnyIn_of_CL {fl fn n g : Nat} {L : Array Bool → (World → Prop) → Act → Prop} {Q : Exit → Act → World → Prop}
    (hL : ∀ listed C a, L listed C a → ∀ w, C w → wpAnyIn (Fence.wide.inRound fl) fn P md ops Q g listed a w) :
    ∀ (f : Nat) (listed : Array Bool) (C : World → Prop) (a : Act), Stable R C → wpCL P md ops R n L f listed C a → ∀ w, C w → wpAnyIn (Fence.wide.inRound fl) fn P md ops Q (f + g) listed a w
  | 0, listed, C, a, _, h, w, hw => by rw [Nat.zero_add]; exact hL _ _ _ h w hw
  | f + 1, listed, C, a, hC, h, w, hw => by
    rw [show f + 1 + g = (f + g) + 1 by omega]
    refine ⟨fun h0 => absurd h0 h.1, fun i hi => ?_⟩
    have h1 := (h.2 i hi).2
    unfold opC at h1
    unfold wpOpIn
    cases ho : ops[i]? with
    | none => simp only [ho] at h1
    | some o =>
      simp only [ho] at h1 ⊢
      split
      · rename_i hwa
        simp only [hwa, if_true] at h1
        obtain ⟨Φ, s1, s2, s3⟩ := h1
        refine wpIn_of_yieldsC (s2 w hw) fun v w' ⟨hr, hp⟩ => ?_
        exact wpAnyIn_of_CL hL f _ _ _ (fun x y hxy hx => ⟨hC x y hxy hx.1, s1 v x y hxy hx.2⟩) (s3 v ⟨w', hp⟩) w' ⟨hC _ _ hr hw, hp⟩
      · rename_i hwa
        simp only [hwa] at h1
        exact ⟨fun _ _ => trivial, wpAnyIn_of_CL hL f _ _ _ hC h1 w hw⟩

theorem wpAnyIn_of_seq {fl fn : Nat} {Q' : Exit → Act → World → Prop} : ∀ (l : List Oper) (k : Nat) (listed : Array Bool) (a : Act) (w : World), (∀ j, l[j]? = ops[k + j]?) →
    Region.seqB md ops l.length k listed = true → wpListIn (Fence.wide.inRound fl) fn P ops Q' l a w → wpAnyIn (Fence.wide.inRound fl) fn P md ops Q' l.length listed a w
  | [], _, _, _, _, _, hB, h => ⟨by simpa [Region.seqB] using hB, h⟩
  | o :: l, k, listed, a, w, hl, hB, h => by
    have h0 : ops[k]? = some o := by simpa using (hl 0).symm
    simp only [List.length_cons, Region.seqB, Bool.and_eq_true, decide_eq_true_eq] at hB
    refine ⟨fun h1 => (by rw [hB.1] at h1; cases h1), fun i hi => ?_⟩
    rw [hB.1] at hi
    have hik : i = k := by simpa using hi
    subst hik
    have hw : wpOpIn (Fence.wide.inRound fl) fn P ops Q' i (wpListIn (Fence.wide.inRound fl) fn P ops Q' l) a w := by unfold wpOpIn; simp only [h0]; exact h
    exact wpOpIn_mono (fun a' w' h' => wpAnyIn_of_seq l (i + 1) _ a' w' (fun j => by have := hl (j + 1); simpa [Nat.add_assoc, Nat.add_comm 1 j] using this) hB.2 h') hw

theorem wpIn_region_Tt {fl fn id : Nat} {Q : Exit → Act → World → Prop} {a : Act} {w : World} {l : List Oper} (n : Nat) (C : World → Prop) (σ : List (Nat × Nat)) (hm : P.follows .mixedOrders = true) (hB : tailB l.toArray n σ = true)
    (hS : Stable R C) (hC : C { w with drawn := w.drawn + 1 }) (h : wpT P l.toArray R (fun C a => ∀ w, C w → wpListIn (Fence.wide.inRound fl) fn P l.toArray Q (l.drop n) a w) σ C a) : (Code.region id l.toArray true).wpIn (Fence.wide.inRound fl) fn P Q a w := by
  simp only [tailB, Bool.and_eq_true, decide_eq_true_eq] at hB
  obtain ⟨⟨⟨⟨⟨hsel, hn⟩, hlen⟩, hs⟩, hc⟩, hB⟩ := hB
  have hdl : (l.drop n).length = l.toArray.size - n := by simp
  have H := wpCL_of_T (md := .any) (n := n) (fin := Region.seqB .any l.toArray (l.toArray.size - n) n) (g := 0) (L := fun listed C a => Region.seqB .any l.toArray (l.toArray.size - n) n listed = true ∧ ∀ w, C w → wpListIn (Fence.wide.inRound fl) fn P l.toArray Q (l.drop n) a w) hsel (fun _ D D' a hD hh => ⟨hh.1, fun w hw => hh.2 w (hD w hw)⟩) (fun _ _ _ _ hf hk => ⟨hf, hk⟩) (fun listed inv i hin hun t ht => tail_waits hs hc hn inv _ i rfl hin hun t ht)
    (fun listed _ _ hL => seqB_ready hL.1) σ _ C a headInv0 hB h
  refine wpIn_region_any hm ?_
  have := wpAnyIn_of_CL (fl := fl) (fn := fn) (g := l.toArray.size - n) (Q := Q) (fun listed C a hL w hw => by
    have := wpAnyIn_of_seq (md := .any) (Q' := Q) (P := P) (ops := l.toArray) (l.drop n) n listed a w (fun j => by simp [List.getElem?_drop]) (by rw [hdl]; exact hL.1) (hL.2 w hw)
    rwa [hdl] at this) _ _ _ _ hS H _ hC
  rw [Nat.add_zero, hlen, show n + (l.toArray.size - n) = l.toArray.size by omega] at this
  exact this

theorem wpIn_region_T {fl fn id : Nat} {Q : Exit → Act → World → Prop} {a : Act} {w : World} {l : List Oper} (C : World → Prop) (σ : List (Nat × Nat)) (hm : P.follows .mixedOrders = true) (hB : allB l.toArray σ = true)
    (hS : Stable R C) (hC : C { w with drawn := w.drawn + 1 }) (h : wpT P l.toArray R (fun C a => ∀ w, C w → Q .normal a w) σ C a) : (Code.region id l.toArray true).wpIn (Fence.wide.inRound fl) fn P Q a w := by
  simp only [allB, Bool.and_eq_true, decide_eq_true_eq] at hB
  obtain ⟨⟨hsel, hlen⟩, hB⟩ := hB
  have hre : ∀ listed, ∀ t, l.toArray.size ≤ t → t ∉ Region.ready .any l.toArray listed := fun listed t ht hr => by
    obtain ⟨_, o, ho, _⟩ := mem_ready.1 hr
    have := (Array.getElem?_eq_some_iff.1 ho).1
    omega
  have H := wpCL_of_T (md := .any) (n := l.toArray.size) (fin := endB l.toArray) (g := 0) (L := fun listed C a => endB l.toArray listed = true ∧ ∀ w, C w → Q .normal a w) hsel (fun _ D D' a hD hh => ⟨hh.1, fun w hw => hh.2 w (hD w hw)⟩) (fun _ _ _ _ hf hk => ⟨hf, hk⟩) (fun listed _ _ _ _ t ht => hre listed t ht)
    (fun listed _ _ hL j hj => by have hf := hL.1; simp only [endB, List.isEmpty_iff] at hf; rw [hf] at hj; cases hj) σ _ C a headInv0 hB h
  refine wpIn_region_any hm ?_
  have := wpAnyIn_of_CL (fl := fl) (fn := fn) (g := 0) (Q := Q) (fun listed C a hL w hw => (⟨by simpa [endB] using hL.1, hL.2 w hw⟩ : wpAnyIn (Fence.wide.inRound fl) fn P .any l.toArray Q 0 listed a w)) _ _ _ _ hS H _ hC
  rw [Nat.add_zero, hlen] at this
  exact this
end
end Go.Proofs.Ytgdcidbpadhkpaa
