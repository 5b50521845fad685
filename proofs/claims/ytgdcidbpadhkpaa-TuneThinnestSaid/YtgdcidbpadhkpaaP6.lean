/- Contracts over the abstract machine: the plain law of the thinnest table. Conditions: none. -/
import Derived.Test.YtgdcidbpadhkpaaL5
set_option linter.unusedVariables false
set_option linter.unusedSimpArgs false
namespace Go.Proofs.Ytgdcidbpadhkpaa.Am.M
open Go

/-- A way to the last row. -/
inductive Way (E : Nat → Nat → Bool) (last : Nat) : Nat → List Nat → Prop
  | stop : Way E last last [last]
  | go {i k : Nat} {r : List Nat} (h : i < k) (hk : k ≤ last) (hE : E i k = true) (hr : Way E last k r) : Way E last i (i :: r)
theorem Way.head {E : Nat → Nat → Bool} {last i : Nat} {r : List Nat} (h : Way E last i r) : r[0]? = some i := by cases h <;> rfl
theorem Way.le {E : Nat → Nat → Bool} {last i : Nat} {r : List Nat} (h : Way E last i r) : i ≤ last ∧ r.length ≤ last - i + 1 := by
  induction h with
  | stop => simp
  | go h hk hE hr ih => simp; omega
theorem Way.mem {E : Nat → Nat → Bool} {last i : Nat} {r : List Nat} (h : Way E last i r) : ∀ j ∈ r, i ≤ j ∧ j ≤ last := by
  induction h with
  | stop => intro j hj; simp at hj; omega
  | go h hk hE hr ih =>
    intro j hj
    rcases List.mem_cons.1 hj with rfl | hj
    · omega
    · have := ih j hj; omega
theorem Way.asc {E : Nat → Nat → Bool} {last i : Nat} {r : List Nat} (h : Way E last i r) : r.Pairwise (· < ·) := by
  induction h with
  | stop => simp
  | go h hk hE hr ih => exact List.pairwise_cons.2 ⟨fun j hj => by have := hr.mem j hj; omega, ih⟩
theorem Way.last {E : Nat → Nat → Bool} {last i : Nat} {r : List Nat} (h : Way E last i r) : 0 < r.length ∧ r[r.length - 1]? = some last := by
  induction h with
  | stop => simp
  | go h hk hE hr ih =>
    refine ⟨by simp, ?_⟩
    obtain ⟨h1, h2⟩ := ih
    rw [List.length_cons, Nat.add_sub_cancel]
    obtain ⟨m, hm⟩ : ∃ m, List.length _ = m + 1 := ⟨_ - 1, (Nat.succ_pred_eq_of_pos h1).symm⟩
    rw [hm] at h2 ⊢
    simpa using h2
theorem Way.at_ {E : Nat → Nat → Bool} {last i : Nat} {r : List Nat} (h : Way E last i r) : ∀ j, i ≤ j → j ≤ last → (∃ t : Nat, r[t]? = some j) ∨ ∃ t a b : Nat, r[t]? = some a ∧ r[t + 1]? = some b ∧ a < j ∧ j < b ∧ E a b = true := by
  induction h with
  | stop => intro j h1 h2; exact .inl ⟨0, by simp; omega⟩
  | @go i k r h hk hE hr ih =>
    intro j h1 h2
    by_cases hj : j = i
    · exact .inl ⟨0, by simp [hj]⟩
    by_cases hjk : j < k
    · exact .inr ⟨0, i, k, rfl, by simpa using hr.head, by omega, hjk, hE⟩
    rcases ih j (by omega) h2 with ⟨t, ht⟩ | ⟨t, a, b, q1, q2, q3⟩
    · exact .inl ⟨t + 1, by simpa using ht⟩
    · exact .inr ⟨t + 1, a, b, by simpa using q1, by simpa using q2, q3⟩
theorem Way.least {E : Nat → Nat → Bool} {n i : Nat} {M N : Nat → Nat} {r : List Nat} (hS : Sh E n M N) (h : Way E (n - 1) i r) : M i + 1 ≤ r.length := by
  generalize hl : n - 1 = last at h
  induction h with
  | stop => subst hl; rw [hS.top]; simp
  | go h hk hE hr ih =>
    have := (hS.least _ (by omega) _ h (by omega) hE).1
    simp; omega
theorem rest_way {E : Nat → Nat → Bool} {n : Nat} {M : Nat → Nat} {L : List Nat} (hS : Sh E n M (fun i => L.getD i 0)) : ∀ (d i : Nat) (r : List Nat), n - 1 - i = d → i ≤ n - 1 → Rest L (n - 1) i r → Way E (n - 1) i r ∧ r.length = M i + 1 := by
  intro d
  induction d using Nat.strongRecOn with
  | _ d ih =>
    intro i r hd hi hR
    by_cases hil : i = n - 1
    · subst hil
      rw [rest_last hR]
      exact ⟨.stop, by rw [hS.top]; rfl⟩
    · obtain ⟨b1, b2, b3, b4⟩ := hS.step i (by omega)
      obtain ⟨r', rfl, hR'⟩ := rest_step hR (by omega) b1 b2
      obtain ⟨w1, w2⟩ := ih (n - 1 - L.getD i 0) (by omega) _ r' rfl b2 hR'
      exact ⟨.go b1 b2 b3 w1, by simp [w2, b4]⟩
theorem thin_way (l : List (Int × Int)) (s : Int) (hl : 0 < l.length) : Way (spansS l · · s) (l.length - 1) 0 (thinL l s) ∧ (thinL l s).length = gM (dpF l s) 0 + 1 :=
  rest_way (dp_sh l s hl) _ 0 _ rfl (Nat.zero_le _) rest_first
abbrev chs (l : List (Int × Int)) (r : List Nat) : List (Int × Int) := r.map fun n => l.getD n (0, 0)
theorem mid_ok {x y r : Int × Int} {s : Int} (h3 : x.1 < r.1) (h4 : r.1 < y.1) : devQ (x.2 * ((y.1 - x.1) - (r.1 - x.1)) + y.2 * (r.1 - x.1), y.1 - x.1) r.2 s = okAt x y r s := by
  have hne : ¬ x = y := fun e => by rw [e] at h3; omega
  have e1 : btw x y r.1 = (x.2 * ((y.1 - x.1) - (r.1 - x.1)) + y.2 * (r.1 - x.1), y.1 - x.1) := by
    unfold btw; rw [if_neg hne]
    refine Prod.ext ?_ rfl
    simp only; grind
  unfold okAt dev devQ
  rw [e1]
  rw [decide_eq_decide]
  simp only
  generalize x.2 * ((y.1 - x.1) - (r.1 - x.1)) + y.2 * (r.1 - x.1) - r.2 * (y.1 - x.1) = z
  generalize s * (y.1 - x.1) = c
  omega
/-- Rows by ascending numbers, the first and the last one with them. -/
structure Pick (l : List (Int × Int)) (r : List Nat) : Prop where
  asc : r.Pairwise (· < ·)
  le : ∀ j ∈ r, j ≤ l.length - 1
  pos : 0 < r.length
  fst : r[0]? = some 0
  lst : r[r.length - 1]? = some (l.length - 1)
  few : r.length ≤ 20
theorem Pick.get {l : List (Int × Int)} {r : List Nat} (hT : Tab l) (h : Pick l r) {t j : Nat} (ht : r[t]? = some j) : ∃ x, l[j]? = some x ∧ (chs l r)[t]? = some x := by
  have hj := h.le j (List.mem_of_getElem? ht)
  have hp := hT.pos
  refine ⟨l[j], List.getElem?_eq_getElem (by omega), ?_⟩
  rw [List.getElem?_map, ht, Option.map_some, getD_at (List.getElem?_eq_getElem (show j < l.length by omega))]
theorem Pick.tab {l : List (Int × Int)} {r : List Nat} (hT : Tab l) (h : Pick l r) : Tab (chs l r) := by
  refine ⟨by simpa using h.pos, by simpa using h.few, fun x hx => ?_, ?_⟩
  · obtain ⟨j, hj, rfl⟩ := List.mem_map.1 hx
    have := h.le j hj
    have hp := hT.pos
    have hjl : l[j]? = some l[j] := List.getElem?_eq_getElem (by omega)
    rw [getD_at hjl]
    exact hT.rows _ (List.mem_of_getElem? hjl)
  · rw [List.pairwise_map]
    refine h.asc.imp_of_mem fun {a b} ha hb hab => ?_
    have h1 := h.le a ha
    have h2 := h.le b hb
    have hp := hT.pos
    have e1 : l[a]? = some l[a] := List.getElem?_eq_getElem (by omega)
    have e2 : l[b]? = some l[b] := List.getElem?_eq_getElem (by omega)
    rw [getD_at e1, getD_at e2]
    exact asc_lt hT.asc e1 e2 hab
theorem asc_le {l : List (Int × Int)} (hT : Tab l) {i j : Nat} {x y : Int × Int} (hx : l[i]? = some x) (hy : l[j]? = some y) (hij : i ≤ j) : x.1 ≤ y.1 := by
  by_cases e : i = j
  · subst e; rw [hx] at hy; cases hy; exact Int.le_refl _
  · have := asc_lt hT.asc hx hy (by omega); omega
theorem Pick.dep {l : List (Int × Int)} {r : List Nat} (hT : Tab l) (h : Pick l r) : ∀ x ∈ l, RowIn x ∧ depE (chs l r) x.1 = 0 := by
  intro x hx
  have hR := hT.rows x hx
  refine ⟨hR, ?_⟩
  obtain ⟨j, hj⟩ := List.getElem?_of_mem hx
  obtain ⟨a, ha, ha'⟩ := h.get hT h.fst
  obtain ⟨b, hb, hb'⟩ := h.get hT h.lst
  have h1 := asc_le hT ha hj (Nat.zero_le _)
  have hjl := (List.getElem?_eq_some_iff.1 hj).1
  have h2 := asc_le hT hj hb (by omega)
  obtain ⟨a1, a2, a3, a4⟩ := hR
  have e1 : inR 0 x.1 100000 = true := by simp [inR]; omega
  have e2 : inR a.1 x.1 b.1 = true := by simp [inR]; omega
  unfold depE
  rw [e1, if_neg (by simp), getD_at ha', List.length_map, getD_at hb', e2, if_neg (by simp)]
theorem Way.pick {l : List (Int × Int)} {E : Nat → Nat → Bool} {r : List Nat} (hT : Tab l) (h : Way E (l.length - 1) 0 r) : Pick l r :=
  ⟨h.asc, fun j hj => (h.mem j hj).2, h.last.1, h.head, h.last.2, by have := h.le.2; have := hT.few; have := hT.pos; omega⟩
theorem Way.near {l : List (Int × Int)} {s : Int} {r : List Nat} (hT : Tab l) (hs : 0 ≤ s) (h : Way (spansS l · · s) (l.length - 1) 0 r) : nearS l (chs l r) s = true := by
  have hP := h.pick hT
  have hC := hP.tab hT
  refine List.all_eq_true.2 fun x hx => ?_
  obtain ⟨j, hj⟩ := List.getElem?_of_mem hx
  have hjl := (List.getElem?_eq_some_iff.1 hj).1
  rcases h.at_ j (Nat.zero_le _) (by omega) with ⟨t, ht⟩ | ⟨t, a, b, q1, q2, q3, q4, q5⟩
  · obtain ⟨y, hy, hy'⟩ := hP.get hT ht
    rw [hj] at hy; cases hy
    rw [refQ_at hC hy' rfl]; exact devQ_at hs
  · obtain ⟨y, hy, hy'⟩ := hP.get hT q1
    obtain ⟨z, hz, hz'⟩ := hP.get hT q2
    have h1 := asc_lt hT.asc hy hj q3
    have h2 := asc_lt hT.asc hj hz q4
    rw [refQ_mid hC hy' hz' h1 h2, mid_ok h1 h2]
    unfold spansS at q5
    rw [getD_at hy, getD_at hz] at q5
    refine List.all_eq_true.1 q5 x ?_
    refine List.mem_of_getElem? (i := j - (a + 1)) ?_
    rw [List.getElem?_drop, List.getElem?_take, if_pos (by omega), show a + 1 + (j - (a + 1)) = j by omega, hj]
theorem Pick.way {l : List (Int × Int)} {s : Int} {r : List Nat} (hT : Tab l) (h : Pick l r) (hN : nearS l (chs l r) s = true) : Way (spansS l · · s) (l.length - 1) 0 r := by
  have hC := h.tab hT
  have step : ∀ (t a b : Nat), r[t]? = some a → r[t + 1]? = some b → a < b ∧ spansS l a b s = true := fun t a b ha hb => by
    have hab : a < b := by
      obtain ⟨h1, rfl⟩ := List.getElem?_eq_some_iff.1 ha
      obtain ⟨h2, rfl⟩ := List.getElem?_eq_some_iff.1 hb
      exact List.pairwise_iff_getElem.1 h.asc t (t + 1) h1 h2 (by omega)
    refine ⟨hab, ?_⟩
    obtain ⟨y, hy, hy'⟩ := h.get hT ha
    obtain ⟨z, hz, hz'⟩ := h.get hT hb
    unfold spansS
    rw [getD_at hy, getD_at hz]
    refine List.all_eq_true.2 fun x hx => ?_
    obtain ⟨j, hj⟩ := List.getElem?_of_mem hx
    rw [List.getElem?_drop, List.getElem?_take] at hj
    split at hj
    · have h1 := asc_lt hT.asc hy hj (by omega)
      have h2 := asc_lt hT.asc hj hz (by omega)
      have := List.all_eq_true.1 hN x (List.mem_of_getElem? hj)
      rw [refQ_mid hC hy' hz' h1 h2, mid_ok h1 h2] at this
      exact this
    · cases hj
  have all : ∀ (m t a : Nat), r.length - 1 - t = m → r[t]? = some a → Way (spansS l · · s) (l.length - 1) a (r.drop t) := by
    intro m
    induction m with
    | zero =>
      intro t a hm ha
      have hlt := (List.getElem?_eq_some_iff.1 ha).1
      have ht : t = r.length - 1 := by omega
      have hl := h.lst
      rw [← ht, ha] at hl
      cases hl
      obtain ⟨_, he⟩ := List.getElem?_eq_some_iff.1 ha
      rw [List.drop_eq_getElem_cons hlt, he, List.drop_of_length_le (by omega)]
      exact .stop
    | succ m ih =>
      intro t a hm ha
      have hlt := (List.getElem?_eq_some_iff.1 ha).1
      obtain ⟨b, hb⟩ : ∃ b, r[t + 1]? = some b := ⟨_, List.getElem?_eq_getElem (by omega)⟩
      obtain ⟨h1, h2⟩ := step t a b ha hb
      obtain ⟨_, he⟩ := List.getElem?_eq_some_iff.1 ha
      rw [List.drop_eq_getElem_cons hlt, he]
      exact .go h1 (h.le b (List.mem_of_getElem? hb)) h2 (ih (t + 1) b (by omega) hb)
  have := all _ 0 0 rfl h.fst
  simpa using this
def ascB : List Int → Bool
  | a :: b :: r => decide (a < b) && ascB (b :: r)
  | _ => true
def choiceS (n : Nat) (x : List Int) : Bool := !(decide (x.length = 0) || decide (n < x.length) || decide (x.getD 0 0 ≠ 0) || decide (x.getD (x.length - 1) 0 ≠ (n : Int) - 1)) && ascB x
theorem ascB_pair : ∀ {x : List Int}, ascB x = true → x.Pairwise (· < ·)
  | [], _ => .nil
  | [a], _ => by simp
  | a :: b :: r, h => by
    simp only [ascB, Bool.and_eq_true, decide_eq_true_eq] at h
    have ih := ascB_pair h.2
    refine List.pairwise_cons.2 ⟨fun c hc => ?_, ih⟩
    rcases List.mem_cons.1 hc with rfl | hc
    · exact h.1
    · have := (List.pairwise_cons.1 ih).1 c hc; omega
theorem pair_ascB : ∀ {x : List Int}, x.Pairwise (· < ·) → ascB x = true
  | [], _ => rfl
  | [a], _ => rfl
  | a :: b :: r, h => by
    have h' := List.pairwise_cons.1 h
    simp only [ascB, Bool.and_eq_true, decide_eq_true_eq]
    exact ⟨h'.1 b (by simp), pair_ascB h'.2⟩
theorem choice_pick {l : List (Int × Int)} {x : List Int} (hT : Tab l) (h : choiceS l.length x = true) : ∃ r : List Nat, x = r.map (fun (n : Nat) => (n : Int)) ∧ Pick l r := by
  unfold choiceS at h
  simp only [Bool.and_eq_true, Bool.not_eq_true', Bool.or_eq_false_iff, decide_eq_false_iff_not, Decidable.not_not] at h
  obtain ⟨⟨⟨⟨h1, h2⟩, h3⟩, h4⟩, h5⟩ := h
  have ha := ascB_pair h5
  have hp := hT.pos
  have e0 : x[0]? = some 0 := by rw [← h3, List.getD_eq_getElem?_getD, List.getElem?_eq_getElem (by omega)]; rfl
  have e1 : x[x.length - 1]? = some ((l.length : Int) - 1) := by rw [← h4, List.getD_eq_getElem?_getD, List.getElem?_eq_getElem (by omega)]; rfl
  have lo : ∀ v ∈ x, 0 ≤ v ∧ v ≤ (l.length : Int) - 1 := fun v hv => by
    obtain ⟨i, hi⟩ := List.getElem?_of_mem hv
    obtain ⟨hil, hiv⟩ := List.getElem?_eq_some_iff.1 hi
    obtain ⟨h0l, h0v⟩ := List.getElem?_eq_some_iff.1 e0
    obtain ⟨h1l, h1v⟩ := List.getElem?_eq_some_iff.1 e1
    constructor
    · by_cases e : i = 0
      · subst e; rw [hi] at e0; cases e0; exact Int.le_refl _
      · have := List.pairwise_iff_getElem.1 ha 0 i h0l hil (by omega); omega
    · by_cases e : i = x.length - 1
      · rw [e, e1] at hi; cases hi; exact Int.le_refl _
      · have := List.pairwise_iff_getElem.1 ha i (x.length - 1) hil h1l (by omega); omega
  refine ⟨x.map Int.toNat, ?_, ?_⟩
  · rw [List.map_map]
    have : ∀ v ∈ x, ((fun (n : Nat) => (n : Int)) ∘ Int.toNat) v = id v := fun v hv => by have := lo v hv; simp; omega
    rw [List.map_congr_left this, List.map_id]
  · refine ⟨?_, fun j hj => ?_, by simp; omega, by simp [e0], ?_, by have := hT.few; simp; omega⟩
    · rw [List.pairwise_map]
      exact ha.imp_of_mem fun {a b} h1 h2 hab => by have := lo a h1; have := lo b h2; omega
    · obtain ⟨v, hv, rfl⟩ := List.mem_map.1 hj
      have := lo v hv; omega
    · rw [List.length_map, List.getElem?_map, e1, Option.map_some]
      congr 1; omega
theorem pick_choice {l : List (Int × Int)} {r : List Nat} (hT : Tab l) (h : Pick l r) (hl : r.length ≤ l.length) : choiceS l.length (r.map (fun (n : Nat) => (n : Int))) = true := by
  have hp := hT.pos
  have h1 := h.pos
  have e0 : (r.map (fun (n : Nat) => (n : Int))).getD 0 0 = 0 := by rw [List.getD_eq_getElem?_getD, List.getElem?_map, h.fst]; rfl
  have e1 : (r.map (fun (n : Nat) => (n : Int))).getD (r.length - 1) 0 = (l.length : Int) - 1 := by rw [List.getD_eq_getElem?_getD, List.getElem?_map, h.lst]; simp; omega
  unfold choiceS
  rw [List.length_map, e0, e1, pair_ascB (by rw [List.pairwise_map]; exact h.asc.imp fun h => by omega)]
  simp only [Bool.and_true, Bool.not_eq_true', Bool.or_eq_false_iff, decide_eq_false_iff_not, Decidable.not_not]
  exact ⟨⟨⟨by omega, by omega⟩, trivial⟩, trivial⟩
theorem thin_choice {l : List (Int × Int)} (s : Int) (hT : Tab l) : choiceS l.length ((thinL l s).map (fun (n : Nat) => (n : Int))) = true := by
  have h := (thin_way l s hT.pos).1
  have := hT.pos
  exact pick_choice hT (h.pick hT) (by have := h.le.2; omega)
theorem thin_least {l : List (Int × Int)} {s : Int} {r : List Nat} (hT : Tab l) (h : Pick l r) (hN : nearS l (chs l r) s = true) : (thinL l s).length ≤ r.length := by
  have h1 := (thin_way l s hT.pos).2
  have h2 := (h.way hT hN).least (dp_sh l s hT.pos)
  omega
end Go.Proofs.Ytgdcidbpadhkpaa.Am.M
