/- Contracts over the abstract machine: the plain law of books of steps. Conditions: none. -/
import Derived.Test.YtgdcidbpadhkpaaC12
import Derived.Test.YtgdcidbpadhkpaaAmC
set_option linter.unusedVariables false
set_option linter.unusedSimpArgs false
namespace Go.Proofs.Ytgdcidbpadhkpaa.Am.M
open Go

theorem snoc_ind {α : Type} {Q : List α → Prop} (h0 : Q []) (hs : ∀ l x, Q l → Q (l ++ [x])) : ∀ l, Q l := by
  intro l
  rw [← l.reverse_reverse]
  induction l.reverse with
  | nil => exact h0
  | cons x xs ih => rw [List.reverse_cons]; exact hs _ _ ih
def bookOf (l : List Stp) (ev : List Evt) : List Lst := ev.foldl (addS l) (List.replicate l.length zeroL)
theorem bookOf_snoc (l : List Stp) (ev : List Evt) (x : Evt) : bookOf l (ev ++ [x]) = addS l (bookOf l ev) x := by simp [bookOf, List.foldl_append]
theorem bookOf_len (l : List Stp) : ∀ ev, (bookOf l ev).length = l.length :=
  snoc_ind (by simp [bookOf]) fun ev x h => by rw [bookOf_snoc, addS_len, h]
theorem bookOf_ok {l : List Stp} (hl : l.length ≤ 10) : ∀ ev : List Evt, (∀ e ∈ ev, EvOk e) → BookOk l (bookOf l ev) :=
  snoc_ind (fun _ => bookOk_new hl) fun ev x ih h => by
    rw [bookOf_snoc]
    exact bookOk_add (ih fun e he => h e (by simp [he])) (h x (by simp))
def hitB (s : Stp) (x e : Evt) : Bool := decide (s.warm < max (e.warmth - x.warmth) (-(e.warmth - x.warmth))) || s.needs.any fun n => decide (e.step = n)
/-- What is told of a step by its last event. -/
def LastIs (s : Stp) (ev : List Evt) (i : Nat) (y : Lst) : Prop :=
  ((∀ e ∈ ev, e.step ≠ (i : Int)) ∧ y.don = false) ∨
  ∃ (a : Nat) (x : Evt), ev[a]? = some x ∧ x.step = (i : Int) ∧ (∀ (m : Nat) (e : Evt), a < m → ev[m]? = some e → e.step ≠ (i : Int)) ∧ y.don = true ∧ y.minute = x.minute ∧ y.warmth = x.warmth ∧ y.kept = (ev.drop (a + 1)).all fun e => !hitB s x e
theorem book_last {l : List Stp} {i : Nat} {s : Stp} (hs : l[i]? = some s) : ∀ (ev : List Evt) (y : Lst), (bookOf l ev)[i]? = some y → LastIs s ev i y := by
  refine snoc_ind (fun y hy => ?_) fun ev x ih y hy => ?_
  · left
    simp only [bookOf, List.foldl_nil, List.getElem?_replicate] at hy
    split at hy
    · cases hy; exact ⟨fun e he => (by cases he), rfl⟩
    · cases hy
  · rw [bookOf_snoc] at hy
    simp only [addS, List.getElem?_mapIdx] at hy
    cases hL : (bookOf l ev)[i]? with
    | none => rw [hL] at hy; cases hy
    | some y0 =>
      rw [hL] at hy
      simp only [Option.map_some, Option.some.injEq] at hy
      rw [getD_at hs] at hy
      have ih0 := ih y0 hL
      unfold addOne at hy
      by_cases hx : (i : Int) = x.step
      · rw [if_pos hx] at hy
        subst hy
        refine .inr ⟨ev.length, x, by simp, hx.symm, fun m e hm he => ?_, rfl, rfl, rfl, by simp⟩
        have := (List.getElem?_eq_some_iff.1 he).1
        simp at this; omega
      · rw [if_neg hx] at hy
        rcases ih0 with ⟨h1, h2⟩ | ⟨a, xa, h1, h2, h3, h4, h5, h6, h7⟩
        · refine .inl ⟨fun e he => ?_, by rw [← hy]; split <;> exact h2⟩
          rcases List.mem_append.1 he with he | he
          · exact h1 e he
          · simp at he; subst he; exact fun e => hx e.symm
        · have hal := (List.getElem?_eq_some_iff.1 h1).1
          have hit : (s.warm < max (x.warmth - y0.warmth) (-(x.warmth - y0.warmth)) ∨ (s.needs.any fun n => decide (x.step = n)) = true) ↔ hitB s xa x = true := by
            rw [h6]; simp only [hitB, Bool.or_eq_true, decide_eq_true_eq]
          refine .inr ⟨a, xa, by rw [List.getElem?_append_left hal]; exact h1, h2, fun m e hm he => ?_, ?_, ?_, ?_, ?_⟩
          · by_cases hme : m < ev.length
            · rw [List.getElem?_append_left hme] at he; exact h3 m e hm he
            · have hml := (List.getElem?_eq_some_iff.1 he).1
              simp at hml
              have : m = ev.length := by omega
              subst this
              simp at he
              subst he
              exact fun e => hx e.symm
          · rw [← hy]; split <;> exact h4
          · rw [← hy]; split <;> exact h5
          · rw [← hy]; split <;> exact h6
          · rw [List.drop_append_of_le_length (by omega), List.all_append, ← h7]
            simp only [List.all_cons, List.all_nil, Bool.and_true]
            rw [← hy]
            by_cases hh : hitB s xa x = true
            · rw [if_pos (hit.2 hh), hh]; simp
            · rw [if_neg (fun e => hh (hit.1 e))]
              have : hitB s xa x = false := by simpa using hh
              rw [this]; simp
def lastTo (ev : List Evt) (i : Int) : Nat → Int
  | 0 => -1
  | k + 1 => if (ev.getD k zeroE).step = i then (k : Int) else lastTo ev i k
abbrev lastR (ev : List Evt) (i : Int) : Int := lastTo ev i ev.length
theorem lastTo_none {ev : List Evt} {i : Int} (h : ∀ e ∈ ev, e.step ≠ i) : ∀ k, k ≤ ev.length → lastTo ev i k = -1
  | 0, _ => rfl
  | k + 1, hk => by
    have hx : ev[k]? = some ev[k] := List.getElem?_eq_getElem (by omega)
    unfold lastTo
    rw [getD_at hx, if_neg (h _ (List.mem_of_getElem? hx)), lastTo_none h k (by omega)]
theorem lastTo_at {ev : List Evt} {i : Int} {a : Nat} {x : Evt} (ha : ev[a]? = some x) (hx : x.step = i) (h : ∀ (m : Nat) (e : Evt), a < m → ev[m]? = some e → e.step ≠ i) : ∀ k, a < k → k ≤ ev.length → lastTo ev i k = (a : Int)
  | 0, h0, _ => by omega
  | k + 1, h0, hk => by
    have hy : ev[k]? = some ev[k] := List.getElem?_eq_getElem (by omega)
    unfold lastTo
    rw [getD_at hy]
    by_cases e : k = a
    · subst e
      rw [ha] at hy
      cases hy
      rw [if_pos hx]
    · rw [if_neg (h k _ (by omega) hy), lastTo_at ha hx h k (by omega) (by omega)]
/-- What is told of a step by its last event, by the number of this one. -/
theorem last_case {l : List Stp} {ev : List Evt} {i : Nat} {s : Stp} {y : Lst} (hs : l[i]? = some s) (hy : (bookOf l ev)[i]? = some y) :
    (lastR ev (i : Int) = -1 ∧ y.don = false) ∨ ∃ (a : Nat) (x : Evt), lastR ev (i : Int) = (a : Int) ∧ ev[a]? = some x ∧ y.don = true ∧ y.minute = x.minute ∧ y.warmth = x.warmth ∧ y.kept = (ev.drop (a + 1)).all fun e => !hitB s x e := by
  rcases book_last hs ev y hy with ⟨h1, h2⟩ | ⟨a, x, h1, h2, h3, h4⟩
  · exact .inl ⟨lastTo_none h1 _ (Nat.le_refl _), h2⟩
  · exact .inr ⟨a, x, lastTo_at h1 h2 h3 _ (List.getElem?_eq_some_iff.1 h1).1 (Nat.le_refl _), h1, h4⟩
/-- Whether a step is valid, by what it needs. -/
theorem fold_valid {l : List Stp} {L : List Lst} {m : Int} : ∀ (ns : List Int) (a : Int × Bool),
    ((ns.foldl (fun a n => (min a.1 (untilS l L n.toNat).1, a.2 && (untilS l L n.toNat).2)) a).2 && decide (m ≤ (ns.foldl (fun a n => (min a.1 (untilS l L n.toNat).1, a.2 && (untilS l L n.toNat).2)) a).1)) = ((a.2 && decide (m ≤ a.1)) && ns.all fun n => validS l L n.toNat m)
  | [], a => (Bool.and_true _).symm
  | n :: ns, a => by
    rw [List.foldl_cons, fold_valid ns]
    simp only [List.all_cons, validS]
    have : decide (m ≤ min a.1 (untilS l L n.toNat).1) = (decide (m ≤ a.1) && decide (m ≤ (untilS l L n.toNat).1)) := by
      rw [← Bool.decide_and, decide_eq_decide]; omega
    rw [this]
    cases a.2 <;> cases (untilS l L n.toNat).2 <;> cases decide (m ≤ a.1) <;> cases decide (m ≤ (untilS l L n.toNat).1) <;> simp
theorem validS_eq {l : List Stp} {L : List Lst} (hr : RightS l) {i : Nat} {s : Stp} {y : Lst} {m : Int} (hs : l[i]? = some s) (hy : L[i]? = some y) :
    validS l L i m = ((y.don && y.kept && decide (m ≤ y.minute + s.lasts)) && s.needs.all fun n => validS l L n.toNat m) := by
  unfold validS
  rw [untilS_eq hr hs hy]
  unfold accS
  rw [fold_valid]
  rfl
theorem followFrom_book {l : List Stp} : ∀ {ev : List Evt} {p : Option Int} {L : List Lst} {i : Nat} {L' : List Lst}, followFrom l p L i ev = (some L', 0, 0) → L' = ev.foldl (addS l) L
  | [], p, L, i, L', h => by simp only [followFrom, Prod.mk.injEq, Option.some.injEq] at h; exact h.1.symm
  | x :: xs, p, L, i, L', h => by
    unfold followFrom at h
    split at h
    · simp at h
    · rw [List.foldl_cons]; exact followFrom_book h
theorem followFrom_evs {l : List Stp} : ∀ {ev : List Evt} {p : Option Int} {L : List Lst} {i : Nat}, (followFrom l p L i ev).2.2 = 0 → ∀ e ∈ ev, EvOk e ∧ e.step < (l.length : Int) ∧ -1 ≤ e.step
  | [], _, _, _, _, e, he => by cases he
  | x :: xs, p, L, i, h, e, he => by
    unfold followFrom at h
    split at h
    · rename_i hb; exact absurd h hb
    · rename_i hb
      rcases List.mem_cons.1 he with rfl | he
      · have hb : evBad l L p e = 0 := by simpa using hb
        unfold evBad at hb
        split at hb
        · simp at hb
        · split at hb
          · simp at hb
          · split at hb
            · simp at hb
            · rename_i h1 h2 h3
              simp [inR] at h1 h2 h3
              exact ⟨⟨by omega, by omega, by omega, by omega⟩, by omega, by omega⟩
      · exact followFrom_evs h e he
theorem follow_book {l : List Stp} {ev : List Evt} (h : (followS l ev).2.2 = 0) : followS l ev = (some (bookOf l ev), 0, 0) ∧ RightS l ∧ (∀ e ∈ ev, EvOk e ∧ e.step < (l.length : Int) ∧ -1 ≤ e.step) ∧ ev.length ≤ 60 := by
  obtain ⟨L, h1, _, h3, h4⟩ := followS_ok h
  have e : followS l ev = followFrom l none (List.replicate l.length zeroL) 0 ev := by
    unfold followS
    unfold followS at h
    split at h
    · rename_i hc; exact absurd h hc
    · rename_i hc
      rw [if_neg hc]
      rw [if_neg (by omega)]
  refine ⟨?_, h3, ?_, h4⟩
  · rw [h1]
    rw [e] at h1
    rw [followFrom_book h1]; rfl
  · rw [e] at h
    exact followFrom_evs h
end Go.Proofs.Ytgdcidbpadhkpaa.Am.M
