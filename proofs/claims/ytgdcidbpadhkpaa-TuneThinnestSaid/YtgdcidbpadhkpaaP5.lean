/- Contracts over the abstract machine: the plain law of thinned tables. Conditions: none. -/
import Derived.Test.YtgdcidbpadhkpaaC11
set_option linter.unusedVariables false
set_option linter.unusedSimpArgs false
namespace Go.Proofs.Ytgdcidbpadhkpaa.Am.M
open Go

def devQ (q : Int × Int) (e s : Int) : Bool := decide (max (q.1 - e * q.2) (-(q.1 - e * q.2)) ≤ s * q.2)
def nearS (l few : List (Int × Int)) (s : Int) : Bool := l.all fun x => devQ (refQ few x.1) x.2 s
theorem rowIn_good {x : Int × Int} (h : RowIn x) : rowBad x = 0 := by
  have he := echoE_row h
  obtain ⟨h1, h2, _, _⟩ := h
  have : inR 0 x.1 100000 = true := by simp [inR]; omega
  unfold rowBad; rw [this, he]; rfl
theorem ckFrom_tab : ∀ (l : List (Int × Int)) (i : Nat) (p : Option Int), (∀ x ∈ l, RowIn x) → l.Pairwise (fun a b => a.1 < b.1) → (∀ d, p = some d → ∀ x ∈ l, d < x.1) → ckFrom i p l = (0, 0)
  | [], _, _, _, _, _ => rfl
  | x :: xs, i, p, hr, ha, hp => by
    rw [List.pairwise_cons] at ha
    have ho : ¬ ordBad p x.1 = true := by
      cases p with
      | none => simp [ordBad]
      | some d => have := hp d rfl x (by simp); simp [ordBad]; omega
    unfold ckFrom
    rw [if_neg (by rw [rowIn_good (hr x (by simp))]; simp), if_neg ho]
    exact ckFrom_tab xs (i + 1) _ (fun y hy => hr y (by simp [hy])) ha.2 fun d hd y hy => by cases hd; exact ha.1 y hy
theorem tab_ckT {l : List (Int × Int)} (h : Tab l) : ckT l = (0, 0) := by
  unfold ckT
  have h1 := h.pos
  have h2 := h.few
  rw [if_neg (by omega), if_neg (by omega)]
  exact ckFrom_tab l 0 none h.rows h.asc fun d hd => by cases hd
theorem tab2 {x y : Int × Int} (hx : RowIn x) (hy : RowIn y) (h : x.1 < y.1) : Tab [x, y] :=
  ⟨by simp, by simp, by simp [hx, hy], by simp [h]⟩
theorem devQ_at {e s : Int} (hs : 0 ≤ s) : devQ (e, 1) e s = true := by simp [devQ]; omega
theorem take_split {l : List (Int × Int)} {i k : Nat} {x y : Int × Int} (hx : l[i]? = some x) (hy : l[k]? = some y) (hik : i < k) : (l.take (k + 1)).drop i = x :: ((l.take k).drop (i + 1) ++ [y]) := by
  have hk := (List.getElem?_eq_some_iff.1 hy).1
  rw [List.take_add_one, hy, Option.toList_some, List.drop_append_of_le_length (by simp; omega)]
  have hxt : (l.take k)[i]? = some x := by rw [List.getElem?_take, if_pos hik, hx]
  obtain ⟨hlt, rfl⟩ := List.getElem?_eq_some_iff.1 hxt
  rw [List.drop_eq_getElem_cons hlt]; rfl
theorem spans_near {l : List (Int × Int)} {i k : Nat} {x y : Int × Int} {s : Int} (hT : Tab l) (hx : l[i]? = some x) (hy : l[k]? = some y) (hik : i < k) (hs : 0 ≤ s) : nearS ((l.take (k + 1)).drop i) [x, y] s = spansS l i k s := by
  have hxy := asc_lt hT.asc hx hy hik
  have h2 := tab2 (hT.rows x (List.mem_of_getElem? hx)) (hT.rows y (List.mem_of_getElem? hy)) hxy
  have hk := (List.getElem?_eq_some_iff.1 hy).1
  unfold nearS spansS
  rw [take_split hx hy hik, getD_at hx, getD_at hy, List.all_cons, List.all_append]
  rw [refQ_at h2 (k := 0) (x := x) rfl rfl, devQ_at hs, Bool.true_and]
  simp only [List.all_cons, List.all_nil, Bool.and_true]
  rw [refQ_at h2 (k := 1) (x := y) rfl rfl, devQ_at hs, Bool.and_true]
  rw [Bool.eq_iff_iff, List.all_eq_true, List.all_eq_true]
  refine forall_congr' fun r => forall_congr' fun hr => ?_
  obtain ⟨j, hj⟩ := List.getElem?_of_mem hr
  rw [List.getElem?_drop, List.getElem?_take] at hj
  split at hj
  · have h3 := asc_lt hT.asc hx hj (by omega)
    have h4 := asc_lt hT.asc hj hy (by omega)
    rw [refQ_mid h2 (k := 0) (x := x) (y := y) rfl rfl h3 h4]
    have hne : ¬ x = y := fun e => by rw [e] at hxy; omega
    have e1 : btw x y r.1 = (x.2 * ((y.1 - x.1) - (r.1 - x.1)) + y.2 * (r.1 - x.1), y.1 - x.1) := by
      unfold btw; rw [if_neg hne]
      refine Prod.ext ?_ rfl
      simp only; grind
    unfold okAt dev devQ
    rw [e1]
    simp only [decide_eq_true_eq]
    generalize x.2 * ((y.1 - x.1) - (r.1 - x.1)) + y.2 * (r.1 - x.1) - r.2 * (y.1 - x.1) = z
    generalize s * (y.1 - x.1) = c
    omega
  · cases hj
/-- The least numbers of steps to the last row, and the first steps. -/
structure Sh (E : Nat → Nat → Bool) (n : Nat) (M N : Nat → Nat) : Prop where
  top : M (n - 1) = 0
  step : ∀ i, i < n - 1 → i < N i ∧ N i ≤ n - 1 ∧ E i (N i) = true ∧ M i = M (N i) + 1
  least : ∀ i, i < n - 1 → ∀ k, i < k → k ≤ n - 1 → E i k = true → M i ≤ M k + 1 ∧ (k < N i → M i < M k + 1)
theorem Sh.le {E : Nat → Nat → Bool} {n : Nat} {M N : Nat → Nat} (h : Sh E n M N) (hE : ∀ i, E i (i + 1) = true) : ∀ d i, i ≤ n - 1 → n - 1 - i = d → M i ≤ d
  | 0, i, h1, h2 => by
    have : i = n - 1 := by omega
    subst this; rw [h.top]; exact Nat.le_refl _
  | d + 1, i, h1, h2 => by
    have := (h.least i (by omega) (i + 1) (by omega) (by omega) (hE i)).1
    have := h.le hE d (i + 1) (by omega) (by omega)
    omega
/-- What the rounds from above to k have found for i. -/
structure Fnd (E : Nat → Nat → Bool) (n i k : Nat) (M : Nat → Nat) (m q : Nat) : Prop where
  fnd : (m = n ∧ ∀ j, k < j → j ≤ n - 1 → E i j = false) ∨ (k < q ∧ q ≤ n - 1 ∧ E i q = true ∧ m = M q + 1 ∧ ∀ j, k < j → j ≤ n - 1 → E i j = true → m ≤ M j + 1 ∧ (j < q → m < M j + 1))
def SpecAt (E : Nat → Nat → Bool) (n : Nat) (M N : Nat → Nat) (i : Nat) : Prop :=
  i < N i ∧ N i ≤ n - 1 ∧ E i (N i) = true ∧ M i = M (N i) + 1 ∧ ∀ k, i < k → k ≤ n - 1 → E i k = true → M i ≤ M k + 1 ∧ (k < N i → M i < M k + 1)
abbrev gM (st : List Nat × List Nat) (i : Nat) : Nat := st.1.getD i 0
abbrev gN (st : List Nat × List Nat) (i : Nat) : Nat := st.2.getD i 0
theorem inn_fnd {l : List (Int × Int)} {s : Int} {i : Nat} (hi : i < l.length - 1) : ∀ (k : Nat) (st : List Nat × List Nat), i ≤ k → k ≤ l.length - 1 → st.1.length = l.length → st.2.length = l.length → (∀ m, i < m → m ≤ l.length - 1 → gM st m ≤ l.length - 1 - m) →
    Fnd (spansS l · · s) l.length i k (gM st) (gM st i) (gN st i) → Fnd (spansS l · · s) l.length i i (gM (inn l s i k st)) (gM (inn l s i k st) i) (gN (inn l s i k st) i)
  | 0, st, h, hk, h1, h2, hM, hF => by
    have : i = 0 := by omega
    subst this
    have e : inn l s 0 0 st = st := rfl
    rw [e]; exact hF
  | k + 1, st, h, hk, h1, h2, hM, hF => by
    by_cases hik : i = k + 1
    · subst hik
      have e : inn l s (k + 1) (k + 1) st = st := inn_stop (Nat.le_refl _)
      rw [e]; exact hF
    unfold inn
    rw [if_pos (by omega)]
    have hset : ∀ v w : Nat, ∀ j, gM (st.1.set i v, st.2.set i w) j = (if i = j then v else gM st j) ∧ gN (st.1.set i v, st.2.set i w) j = (if i = j then w else gN st j) := fun v w j => by
      simp only [gM, gN, getD_set]
      constructor <;> (split <;> split <;> first | rfl | omega)
    have hu : ∀ j, i < j → gM (stp l s i (k + 1) st) j = gM st j := fun j hj => by
      unfold stp
      split
      · rw [(hset _ _ j).1, if_neg (by omega)]
      · rfl
    have hMk := hM (k + 1) (by omega) hk
    refine inn_fnd hi k _ (by omega) (by omega) (by unfold stp; split <;> simp [h1]) (by unfold stp; split <;> simp [h2]) (fun m hm hm' => by rw [hu m hm]; exact hM m hm hm') ?_
    have key : Fnd (spansS l · · s) l.length i k (gM st) (gM (stp l s i (k + 1) st) i) (gN (stp l s i (k + 1) st) i) := by
      unfold stp
      split
      · rename_i hc
        obtain ⟨hc1, hc2⟩ := hc
        rw [(hset _ _ i).1, (hset _ _ i).2, if_pos rfl, if_pos rfl]
        refine ⟨.inr ⟨by omega, hk, hc2, rfl, fun j hj hj' hE => ?_⟩⟩
        by_cases hjk : j = k + 1
        · subst hjk; exact ⟨Nat.le_refl _, fun h => by omega⟩
        · refine ⟨?_, fun h => by omega⟩
          rcases hF.fnd with ⟨_, q2⟩ | ⟨_, _, _, _, q5⟩
          · rw [q2 j (by omega) hj'] at hE; cases hE
          · exact Nat.le_trans hc1 (q5 j (by omega) hj' hE).1
      · rename_i hc
        rcases hF.fnd with ⟨q1, q2⟩ | ⟨q1, q2, q3, q4, q5⟩
        · refine ⟨.inl ⟨q1, fun j hj hj' => ?_⟩⟩
          by_cases hjk : j = k + 1
          · subst hjk
            cases hE : spansS l i (k + 1) s with
            | false => rfl
            | true => exact absurd ⟨by show gM st (k + 1) + 1 ≤ gM st i; omega, hE⟩ hc
          · exact q2 j (by omega) hj'
        · refine ⟨.inr ⟨by omega, q2, q3, q4, fun j hj hj' hE => ?_⟩⟩
          by_cases hjk : j = k + 1
          · subst hjk
            have hlt : ¬ (gM st (k + 1) + 1 ≤ gM st i) := fun h => hc ⟨h, hE⟩
            exact ⟨by omega, fun _ => by omega⟩
          · exact q5 j (by omega) hj' hE
    rcases key.fnd with ⟨q1, q2⟩ | ⟨q1, q2, q3, q4, q5⟩
    · exact ⟨.inl ⟨q1, q2⟩⟩
    · exact ⟨.inr ⟨q1, q2, q3, by rw [hu (gN (stp l s i (k + 1) st) i) (by omega)]; exact q4, fun j hj hj' hE => by rw [hu j (by omega)]; exact q5 j hj hj' hE⟩⟩
theorem fnd_spec {l : List (Int × Int)} {s : Int} {i : Nat} {st : List Nat × List Nat} (hi : i < l.length - 1) (h : Fnd (spansS l · · s) l.length i i (gM st) (gM st i) (gN st i)) : SpecAt (spansS l · · s) l.length (gM st) (gN st) i := by
  rcases h.fnd with ⟨_, q2⟩ | ⟨q1, q2, q3, q4, q5⟩
  · have := q2 (i + 1) (by omega) (by omega)
    rw [spans_next] at this; cases this
  · exact ⟨q1, q2, q3, q4, q5⟩
theorem outer_sh {l : List (Int × Int)} {s : Int} : ∀ (j : Nat) (st : List Nat × List Nat), j ≤ l.length - 1 → st.1.length = l.length → st.2.length = l.length → (∀ m, j ≤ m → m < l.length - 1 → Got l.length m st ∧ SpecAt (spansS l · · s) l.length (gM st) (gN st) m) → gM st (l.length - 1) = 0 →
    gM (outer l s j st) (l.length - 1) = 0 ∧ ∀ i, i < l.length - 1 → SpecAt (spansS l · · s) l.length (gM (outer l s j st)) (gN (outer l s j st)) i
  | 0, st, _, _, _, hg, hz => ⟨hz, fun i hi => (hg i (Nat.zero_le _) hi).2⟩
  | j + 1, st, hj, h1, h2, hg, hz => by
    unfold outer
    have hset : ∀ m, gM (st.1.set j l.length, st.2) m = if j = m then l.length else gM st m := fun m => by
      simp only [gM, getD_set]; split <;> split <;> first | rfl | omega
    have hI : InnI l.length j (st.1.set j l.length, st.2) := by
      refine ⟨by simpa using h1, h2, fun m hm hm' => ?_, .inr ?_⟩
      · show gM (st.1.set j l.length, st.2) m ≤ _
        rw [hset, if_neg (by omega)]
        by_cases he : m = l.length - 1
        · subst he; rw [hz]; omega
        · exact (hg m (by omega) (by omega)).1.2.2
      · show gM (st.1.set j l.length, st.2) j = _
        rw [hset, if_pos rfl]
    obtain ⟨r1, r2, r3, r4⟩ := inn_got (s := s) (l.length - 1) _ (by omega) (Nat.le_refl _) hI
    have hF := inn_fnd (s := s) (i := j) (by omega) (l.length - 1) (st.1.set j l.length, st.2) (by omega) (Nat.le_refl _) (by simpa using h1) h2 hI.after ⟨.inl ⟨by rw [hset, if_pos rfl], fun m hm hm' => by omega⟩⟩
    have hS := fnd_spec (by omega) hF
    have same : ∀ m, m ≠ j → gM (inn l s j (l.length - 1) (st.1.set j l.length, st.2)) m = gM st m ∧ gN (inn l s j (l.length - 1) (st.1.set j l.length, st.2)) m = gN st m := fun m hm => by
      obtain ⟨e1, e2⟩ := r4 m hm
      refine ⟨e1.trans ?_, e2⟩
      show gM (st.1.set j l.length, st.2) m = _
      rw [hset, if_neg (Ne.symm hm)]
    refine outer_sh j _ (by omega) r2 r3 (fun m hm hm' => ?_) ?_
    · by_cases he : m = j
      · subst he; exact ⟨r1, hS⟩
      · obtain ⟨e1, e2⟩ := same m he
        obtain ⟨⟨g1, g2, g3⟩, p1, p2, p3, p4, p5⟩ := hg m (by omega) hm'
        refine ⟨?_, ?_⟩
        · unfold Got
          rw [show (inn l s j (l.length - 1) (st.1.set j l.length, st.2)).1.getD m 0 = _ from e1, show (inn l s j (l.length - 1) (st.1.set j l.length, st.2)).2.getD m 0 = _ from e2]
          exact ⟨g1, g2, g3⟩
        · unfold SpecAt
          rw [e1, e2]
          refine ⟨p1, p2, p3, ?_, fun k hk hk' hE => ?_⟩
          · rw [(same _ (by omega)).1]; exact p4
          · rw [(same k (by omega)).1]; exact p5 k hk hk' hE
    · rw [(same _ (by omega)).1]; exact hz
theorem dp_sh (l : List (Int × Int)) (s : Int) (hl : 0 < l.length) : Sh (spansS l · · s) l.length (gM (dpF l s)) (gN (dpF l s)) := by
  have h := outer_sh (l := l) (s := s) (l.length - 1) (List.replicate l.length 0, List.replicate l.length 0) (Nat.le_refl _) (by simp) (by simp) (fun m h1 h2 => by omega) (by
    simp only [gM, List.getD_eq_getElem?_getD, List.getElem?_replicate]
    split <;> rfl)
  exact ⟨h.1, fun i hi => let ⟨a, b, c, d, _⟩ := h.2 i hi; ⟨a, b, c, d⟩, fun i hi => (h.2 i hi).2.2.2.2⟩
/-- What the rounds from i on to k have found, in the other direction. -/
def Fst (E : Nat → Nat → Bool) (n i k : Nat) (M : Nat → Nat) (c x : Int) : Prop :=
  (c = (n : Int) + 1 ∧ ∀ j, i < j → j < k → E i j = false) ∨ ∃ q, i < q ∧ q < k ∧ x = (q : Int) ∧ E i q = true ∧ c = (M q : Int) + 2 ∧ ∀ j, i < j → j < k → E i j = true → M q ≤ M j ∧ (j < q → M q < M j)
theorem fst_end {E : Nat → Nat → Bool} {n i : Nat} {M N : Nat → Nat} {c x : Int} (h : Sh E n M N) (hE : E i (i + 1) = true) (hi : i < n - 1) (hF : Fst E n i n M c x) : c = (M i : Int) + 1 ∧ x = (N i : Int) := by
  rcases hF with ⟨_, h2⟩ | ⟨q, h1, h2, rfl, h3, rfl, h4⟩
  · rw [h2 (i + 1) (by omega) (by omega)] at hE; cases hE
  · obtain ⟨a1, a2, a3, a4⟩ := h.step i hi
    obtain ⟨b1, b2⟩ := h.least i hi q h1 (by omega) h3
    obtain ⟨c1, c2⟩ := h4 (N i) a1 (by omega) a3
    have e1 : M i = M q + 1 := by omega
    have e2 : q = N i := by
      rcases Nat.lt_trichotomy q (N i) with h | h | h
      · have := b2 h; omega
      · exact h
      · have := c2 h; omega
    subst e2
    exact ⟨by omega, rfl⟩
theorem fst_step {E : Nat → Nat → Bool} {n i k : Nat} {M : Nat → Nat} {c x : Int} (hik : i < k) (hM : (M k : Int) + 2 < (n : Int) + 1) (hF : Fst E n i k M c x) :
    (E i k = true → (1 : Int) + ((M k : Int) + 1) < c → Fst E n i (k + 1) M (1 + ((M k : Int) + 1)) (k : Int)) ∧ (¬ (E i k = true ∧ (1 : Int) + ((M k : Int) + 1) < c) → Fst E n i (k + 1) M c x) := by
  refine ⟨fun hE hc => .inr ⟨k, hik, by omega, rfl, hE, by omega, fun j hj hj' hEj => ?_⟩, fun hn => ?_⟩
  · by_cases hjk : j = k
    · subst hjk; exact ⟨Nat.le_refl _, fun h => by omega⟩
    · rcases hF with ⟨_, q2⟩ | ⟨q, q1, q2, q3, q4, q5, q6⟩
      · rw [q2 j hj (by omega)] at hEj; cases hEj
      · have := (q6 j hj (by omega) hEj).1
        exact ⟨by omega, fun _ => by omega⟩
  · rcases hF with ⟨q1, q2⟩ | ⟨q, q1, q2, q3, q4, q5, q6⟩
    · refine .inl ⟨q1, fun j hj hj' => ?_⟩
      by_cases hjk : j = k
      · subst hjk
        cases hE : E i j with
        | false => rfl
        | true => exact absurd ⟨hE, by omega⟩ hn
      · exact q2 j hj (by omega)
    · refine .inr ⟨q, q1, by omega, q3, q4, q5, fun j hj hj' hEj => ?_⟩
      by_cases hjk : j = k
      · subst hjk
        have : ¬ (1 : Int) + ((M j : Int) + 1) < c := fun h => hn ⟨hEj, h⟩
        exact ⟨by omega, fun h => by omega⟩
      · exact q6 j hj (by omega) hEj
/-- The way from a row on. -/
def Rest (N : List Nat) (last i : Nat) (r : List Nat) : Prop := (i = last + 1 ∧ r = []) ∨ (i ≤ last ∧ ∃ f, last - i ≤ f ∧ r = i :: chain N last f i)
theorem rest_first {l : List (Int × Int)} {s : Int} : Rest (dpF l s).2 (l.length - 1) 0 (thinL l s) := .inr ⟨Nat.zero_le _, l.length, by omega, rfl⟩
theorem rest_step {N : List Nat} {last i : Nat} {r : List Nat} (h : Rest N last i r) (hi : i < last) (h1 : i < N.getD i 0) (h2 : N.getD i 0 ≤ last) : ∃ r', r = i :: r' ∧ Rest N last (N.getD i 0) r' := by
  rcases h with ⟨h, _⟩ | ⟨_, f, hf, rfl⟩
  · omega
  · obtain ⟨g, rfl⟩ : ∃ g, f = g + 1 := ⟨f - 1, by omega⟩
    refine ⟨_, rfl, .inr ⟨h2, g, by omega, ?_⟩⟩
    rw [show chain N last (g + 1) i = if i < last then N.getD i 0 :: chain N last g (N.getD i 0) else [] from rfl, if_pos hi]
theorem rest_last {N : List Nat} {last : Nat} {r : List Nat} (h : Rest N last last r) : r = [last] := by
  rcases h with ⟨h, _⟩ | ⟨_, f, hf, rfl⟩
  · omega
  · cases f with
    | zero => rfl
    | succ f => rw [show chain N last (f + 1) last = if last < last then N.getD last 0 :: chain N last f (N.getD last 0) else [] from rfl, if_neg (by omega)]
theorem rest_end {N : List Nat} {last : Nat} {r : List Nat} (h : Rest N last (last + 1) r) : r = [] := by
  rcases h with ⟨_, h⟩ | ⟨h, _⟩
  · exact h
  · omega
end Go.Proofs.Ytgdcidbpadhkpaa.Am.M
