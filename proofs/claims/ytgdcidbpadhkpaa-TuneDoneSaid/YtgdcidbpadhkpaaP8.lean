/- Contracts over the abstract machine: the plain law of what is to do. Conditions: none. -/
import Derived.Test.YtgdcidbpadhkpaaC15
set_option linter.unusedVariables false
set_option linter.unusedSimpArgs false
namespace Go.Proofs.Ytgdcidbpadhkpaa.Am.M
open Go

def lastP : Option Int → List Evt → Option Int
  | p, [] => p
  | _, x :: xs => lastP (some x.minute) xs
theorem lastP_snoc (x : Evt) : ∀ (ev : List Evt) (p : Option Int), lastP p (ev ++ [x]) = some x.minute
  | [], _ => rfl
  | y :: ys, p => lastP_snoc x ys _
theorem prevE_last : ∀ ev : List Evt, prevE ev ev.length = lastP none ev :=
  snoc_ind rfl fun ev x _ => by rw [lastP_snoc, List.length_append]; simp [prevE]
theorem followFrom_app {l : List Stp} {ys : List Evt} : ∀ {ev : List Evt} {p : Option Int} {L : List Lst} {i : Nat}, (followFrom l p L i ev).2.2 = 0 → followFrom l p L i (ev ++ ys) = followFrom l (lastP p ev) (ev.foldl (addS l) L) (i + ev.length) ys
  | [], _, _, _, _ => rfl
  | x :: xs, p, L, i, h => by
    rw [List.cons_append]
    unfold followFrom at h
    split at h
    · rename_i hb; exact absurd h hb
    · rename_i hb
      conv => lhs; unfold followFrom
      rw [if_neg hb, followFrom_app h]
      simp only [lastP, List.foldl_cons, List.length_cons]
      rw [show i + 1 + xs.length = i + (xs.length + 1) by omega]
theorem follow_snoc {l : List Stp} {ev : List Evt} {x : Evt} (h : (followS l ev).2.2 = 0) (hl : ev.length < 60) (hb : evBad l (bookOf l ev) (prevE ev ev.length) x = 0) : (followS l (ev ++ [x])).2.2 = 0 := by
  unfold followS at h ⊢
  split at h
  · rename_i hc; exact absurd h hc
  · rename_i hc
    rw [if_neg hc]
    rw [if_neg (by omega)] at h
    rw [if_neg (by simp; omega), followFrom_app h]
    unfold followFrom
    rw [prevE_last] at hb
    have hb' : evBad l (List.foldl (addS l) (List.replicate l.length zeroL) ev) (lastP none ev) x = 0 := hb
    rw [if_neg (by rw [hb']; simp)]
    rfl
theorem snoc_cases {α : Type} : ∀ l : List α, l = [] ∨ ∃ ys z, l = ys ++ [z] :=
  snoc_ind (.inl rfl) fun l x _ => .inr ⟨l, x, rfl⟩
/-- A step is valid, and no reading of a warmth ends it. -/
def GoodV (l : List Stp) (L : List Lst) (m w : Int) (i : Nat) : Prop := validS l L i m = true ∧ ∀ (s : Stp) (y : Lst), l[i]? = some s → L[i]? = some y → max (w - y.warmth) (-(w - y.warmth)) ≤ s.warm
theorem addS_at {l : List Stp} {L : List Lst} {x : Evt} {i : Nat} {s : Stp} {y : Lst} (hs : l[i]? = some s) (hy : L[i]? = some y) : (addS l L x)[i]? = some (addOne s i y x) := by
  simp only [addS, List.getElem?_mapIdx, hy, Option.map_some, getD_at hs]
theorem good_keep {l : List Stp} {L : List Lst} {m w : Int} {e : Evt} (hr : RightS l) (hL : L.length = l.length) (hw : e.warmth = w) (Q : Nat → Prop)
    (hQ : ∀ i, Q i → GoodV l L m w i ∧ (i : Int) ≠ e.step ∧ ∀ s, l[i]? = some s → ∀ n ∈ s.needs, n ≠ e.step ∧ Q n.toNat) : ∀ i, i < l.length → Q i → GoodV l (addS l L e) m w i := by
  intro i
  induction i using Nat.strongRecOn with
  | _ i ih =>
    intro hil hq
    obtain ⟨⟨g1, g2⟩, h2, h3⟩ := hQ i hq
    obtain ⟨s, hs⟩ : ∃ s, l[i]? = some s := ⟨_, List.getElem?_eq_getElem hil⟩
    obtain ⟨y, hy⟩ : ∃ y, L[i]? = some y := ⟨_, List.getElem?_eq_getElem (by omega)⟩
    have g3 := g2 s y hs hy
    have hsame : addOne s i y e = y := by
      unfold addOne
      rw [if_neg h2, if_neg]
      rintro (h | h)
      · rw [hw] at h; omega
      · obtain ⟨n, hn, he⟩ := List.any_eq_true.1 h
        exact (h3 s hs n hn).1 (by have := of_decide_eq_true he; exact this.symm)
    have hy' := addS_at (x := e) hs hy
    rw [hsame] at hy'
    refine ⟨?_, fun s' y' a b => by rw [hs] at a; rw [hy'] at b; cases a; cases b; exact g3⟩
    rw [validS_eq hr hs hy] at g1
    rw [validS_eq hr hs hy']
    rw [Bool.and_eq_true] at g1 ⊢
    refine ⟨g1.1, List.all_eq_true.2 fun n hn => ?_⟩
    obtain ⟨q1, q2⟩ := (hr.each i s hs).2.2.2.2 n hn
    exact (ih n.toNat (by omega) (by omega) (h3 s hs n hn).2).1
theorem good_first {l : List Stp} {ev : List Evt} {m : Int} (hr : RightS l) {i : Nat} (hil : i < l.length) (hv : validS l (bookOf l ev) i m = true) : 0 < ev.length ∧ GoodV l (bookOf l ev) m (ev.getD (ev.length - 1) zeroE).warmth i := by
  obtain ⟨s, hs⟩ : ∃ s, l[i]? = some s := ⟨_, List.getElem?_eq_getElem hil⟩
  obtain ⟨y, hy⟩ : ∃ y, (bookOf l ev)[i]? = some y := ⟨_, List.getElem?_eq_getElem (by rw [bookOf_len]; exact hil)⟩
  have hv0 := hv
  rw [validS_eq hr hs hy, Bool.and_eq_true, Bool.and_eq_true, Bool.and_eq_true] at hv
  obtain ⟨⟨⟨hd, hk⟩, _⟩, _⟩ := hv
  rcases book_last hs ev y hy with ⟨_, h⟩ | ⟨a, x, h1, _, _, _, _, h6, h7⟩
  · rw [h] at hd; cases hd
  · have hal := (List.getElem?_eq_some_iff.1 h1).1
    refine ⟨by omega, hv0, fun s' y' a' b' => ?_⟩
    rw [hs] at a'; rw [hy] at b'; cases a'; cases b'
    obtain ⟨zl, hz⟩ : ∃ z, ev[ev.length - 1]? = some z := ⟨_, List.getElem?_eq_getElem (by omega)⟩
    rw [getD_at hz, h6]
    have hw := (hr.each i s hs).2.2.1
    by_cases e : a = ev.length - 1
    · rw [← e, h1] at hz
      cases hz
      omega
    · rw [h7] at hk
      have := List.all_eq_true.1 hk zl (List.mem_of_getElem? (i := ev.length - 1 - (a + 1)) (by rw [List.getElem?_drop, show a + 1 + (ev.length - 1 - (a + 1)) = ev.length - 1 by omega]; exact hz))
      simp only [hitB, Bool.not_eq_true', Bool.or_eq_false_iff, decide_eq_false_iff_not] at this
      omega
def mkE (m w n : Int) : Evt := ⟨m, n, w⟩
abbrev warmE (ev : List Evt) : Int := if 0 < ev.length then (ev.getD (ev.length - 1) zeroE).warmth else 0
/-- The events that are to do, one behind the other. -/
theorem all_right {l : List Stp} {ev : List Evt} {m : Int} (hF : (followS l ev).2.2 = 0) (hM : minE ev m = 0) (hl : ev.length ≤ 14) : ∀ k, k ≤ l.length →
    (followS l (ev ++ (todoTo l (bookOf l ev) m k).map (mkE m (warmE ev)))).2.2 = 0 ∧ ∀ i, i < l.length → (validS l (bookOf l ev) i m = true ∨ i < k) → GoodV l (bookOf l (ev ++ (todoTo l (bookOf l ev) m k).map (mkE m (warmE ev)))) m (warmE ev) i := by
  obtain ⟨hF1, hr, hev, _⟩ := follow_book hF
  have hfew := hr.few
  have hm : 0 ≤ m ∧ m ≤ 100000000 ∧ (0 < ev.length → (ev.getD (ev.length - 1) zeroE).minute ≤ m) := by
    unfold minE at hM
    split at hM
    · simp at hM
    · rename_i h1
      split at hM
      · simp at hM
      · rename_i h2
        simp [inR] at h1
        exact ⟨h1.1, h1.2, fun h => by omega⟩
  have hwr : -2000 ≤ warmE ev ∧ warmE ev ≤ 2000 := by
    unfold warmE
    by_cases h0 : 0 < ev.length
    · rw [if_pos h0]
      have hz : ev[ev.length - 1]? = some ev[ev.length - 1] := List.getElem?_eq_getElem (by omega)
      rw [getD_at hz]
      have := (hev _ (List.mem_of_getElem? hz)).1
      exact ⟨this.w1, this.w2⟩
    · rw [if_neg h0]; decide
  intro k
  induction k with
  | zero =>
    intro _
    simp only [todoTo, List.range_zero, List.filter_nil, List.map_nil, List.append_nil]
    refine ⟨hF, fun i hil h => ?_⟩
    obtain ⟨h0, hg⟩ := good_first hr hil (h.resolve_right (by omega))
    unfold warmE; rw [if_pos h0]; exact hg
  | succ k ih =>
    intro hk
    obtain ⟨ih1, ih2⟩ := ih (by omega)
    rw [todo_next]
    by_cases hv : validS l (bookOf l ev) k m = true
    · rw [if_pos hv]
      refine ⟨ih1, fun i hil h => ih2 i hil ?_⟩
      rcases h with h | h
      · exact .inl h
      · by_cases e : i = k
        · subst e; exact .inl hv
        · exact .inr (by omega)
    · rw [if_neg hv, List.map_append, ← List.append_assoc]
      have hlen : (todoTo l (bookOf l ev) m k).length ≤ k := todo_len
      generalize hE : ev ++ (todoTo l (bookOf l ev) m k).map (mkE m (warmE ev)) = E at *
      have hEl : E.length ≤ 24 := by rw [← hE]; simp; omega
      obtain ⟨s, hs⟩ : ∃ s, l[k]? = some s := ⟨_, List.getElem?_eq_getElem (by omega)⟩
      obtain ⟨q1, q2, q3, q4, q5⟩ := hr.each k s hs
      have hBl := bookOf_len l E
      simp only [List.map_cons, List.map_nil]
      have hVneeds : ∀ i s', l[i]? = some s' → validS l (bookOf l ev) i m = true → ∀ n ∈ s'.needs, validS l (bookOf l ev) n.toNat m = true := fun i s' hi hvi n hn => by
        have hil := (List.getElem?_eq_some_iff.1 hi).1
        obtain ⟨y, hy⟩ : ∃ y, (bookOf l ev)[i]? = some y := ⟨_, List.getElem?_eq_getElem (by rw [bookOf_len]; exact hil)⟩
        rw [validS_eq hr hi hy, Bool.and_eq_true] at hvi
        exact List.all_eq_true.1 hvi.2 n hn
      let Q : Nat → Prop := fun i => i < l.length ∧ (validS l (bookOf l ev) i m = true ∨ i < k)
      have hcl : ∀ i, Q i → ∀ s', l[i]? = some s' → ∀ n ∈ s'.needs, 0 ≤ n ∧ n < (i : Int) ∧ Q n.toNat := fun i hq s' hi n hn => by
        obtain ⟨a1, a2⟩ := (hr.each i s' hi).2.2.2.2 n hn
        refine ⟨a1, a2, by have := hq.1; omega, ?_⟩
        rcases hq.2 with h | h
        · exact .inl (hVneeds i s' hi h n hn)
        · exact .inr (by omega)
      have hnk : ∀ i, Q i → i ≠ k ∧ ∀ s', l[i]? = some s' → ∀ n ∈ s'.needs, n ≠ (k : Int) := fun i hq => by
        refine ⟨fun e => ?_, fun s' hi n hn e => ?_⟩
        · subst e
          rcases hq.2 with h | h
          · exact hv h
          · omega
        · subst e
          rcases hq.2 with h | h
          · exact hv (by have := hVneeds i s' hi h _ hn; simpa using this)
          · have := (hcl i hq s' hi _ hn).2.1; omega
      have hread : ∀ i, i < l.length → Q i → GoodV l (addS l (bookOf l E) ⟨m, -1, warmE ev⟩) m (warmE ev) i :=
        good_keep hr hBl rfl Q fun i hq => ⟨ih2 i hq.1 hq.2, by simp only; omega, fun s' hi n hn => ⟨by have := (hcl i hq s' hi n hn).1; simp only; omega, (hcl i hq s' hi n hn).2.2⟩⟩
      have hdo : ∀ i, i < l.length → Q i → GoodV l (addS l (bookOf l E) (mkE m (warmE ev) k)) m (warmE ev) i :=
        good_keep hr hBl rfl Q fun i hq => ⟨ih2 i hq.1 hq.2, by have := (hnk i hq).1; show (i : Int) ≠ (k : Int); omega, fun s' hi n hn => ⟨(hnk i hq).2 s' hi n hn, (hcl i hq s' hi n hn).2.2⟩⟩
      have hkn : ∀ n ∈ s.needs, 0 ≤ n ∧ n < (k : Int) ∧ Q n.toNat := fun n hn => by
        obtain ⟨a1, a2⟩ := q5 n hn
        exact ⟨a1, a2, by omega, .inr (by omega)⟩
      have hprev : lessP (prevE E E.length) m = false := by
        rw [prevE_last, ← hE]
        rcases snoc_cases (todoTo l (bookOf l ev) m k) with h | ⟨ys, z, h⟩
        · rw [h, List.map_nil, List.append_nil]
          by_cases h0 : 0 < ev.length
          · obtain ⟨zl, hz⟩ : ∃ z, ev[ev.length - 1]? = some z := ⟨_, List.getElem?_eq_getElem (by omega)⟩
            have h3 := hm.2.2 h0
            rw [getD_at hz] at h3
            rw [← prevE_last]
            obtain ⟨j, hj⟩ : ∃ j, ev.length = j + 1 := ⟨ev.length - 1, by omega⟩
            have hzj : ev[j]? = some zl := by rw [← hz]; congr 1; omega
            rw [hj]
            simp only [prevE, hzj, Option.map_some, lessP, decide_eq_false_iff_not]
            omega
          · have : ev = [] := List.length_eq_zero_iff.1 (by omega)
            rw [this]; rfl
        · rw [h, List.map_append, ← List.append_assoc]
          simp only [List.map_cons, List.map_nil]
          rw [lastP_snoc]
          simp [lessP, mkE]
      refine ⟨follow_snoc ih1 (by omega) ?_, fun i hil h => ?_⟩
      · unfold evBad
        have e1 : inR 0 m 100000000 = true := by simp [inR]; omega
        have e2 : inR (-1) (k : Int) ((l.length : Int) - 1) = true := by simp [inR]; omega
        have e3 : inR (-2000) (warmE ev) 2000 = true := by simp only [inR, Bool.and_eq_true, decide_eq_true_eq]; omega
        rw [if_neg (by show ¬ inR 0 m 100000000 = false; rw [e1]; simp), if_neg (by show ¬ inR (-1) (k : Int) ((l.length : Int) - 1) = false; rw [e2]; simp), if_neg (by show ¬ inR (-2000) (warmE ev) 2000 = false; rw [e3]; simp), if_neg (by show ¬ lessP (prevE E E.length) m = true; rw [hprev]; simp), if_neg]
        rintro ⟨_, h⟩
        rw [show (mkE m (warmE ev) k).step.toNat = k from rfl, getD_at hs, List.all_eq_false] at h
        obtain ⟨n, hn, hf⟩ := h
        obtain ⟨_, _, a3⟩ := hkn n hn
        exact hf (hread n.toNat a3.1 a3).1
      · rw [bookOf_snoc]
        by_cases e : i = k
        · subst e
          obtain ⟨y9, hy⟩ : ∃ y, (bookOf l E)[i]? = some y := ⟨_, List.getElem?_eq_getElem (by rw [hBl]; exact hil)⟩
          have hy' := addS_at (x := mkE m (warmE ev) i) hs hy
          have hone : addOne s i y9 (mkE m (warmE ev) i) = ⟨true, true, m, warmE ev⟩ := by unfold addOne; rw [if_pos (show (i : Int) = (mkE m (warmE ev) i).step from rfl)]; rfl
          rw [hone] at hy'
          refine ⟨?_, fun s' y' a b => by rw [hs] at a; rw [hy'] at b; cases a; cases b; simp only; omega⟩
          rw [validS_eq hr hs hy', Bool.and_eq_true]
          refine ⟨by simp; omega, List.all_eq_true.2 fun n hn => ?_⟩
          obtain ⟨_, _, a3⟩ := hkn n hn
          exact (hdo n.toNat a3.1 a3).1
        · exact hdo i hil ⟨hil, by rcases h with h | h; exact .inl h; exact .inr (by omega)⟩
/-- A step that is not valid does not become valid by events of others. -/
theorem stays_bad {l : List Stp} {ev : List Evt} {m : Int} (hr : RightS l) {G : List Evt} : ∀ q, q < l.length → validS l (bookOf l ev) q m = false → (∀ e ∈ G, e.step ≠ (q : Int)) → validS l (bookOf l (ev ++ G)) q m = false := by
  have hrec : ∀ (q : Nat) (s : Stp) (y0 : Lst), l[q]? = some s → (bookOf l ev)[q]? = some y0 → ∀ G : List Evt, (∀ e ∈ G, e.step ≠ (q : Int)) → ∀ y, (bookOf l (ev ++ G))[q]? = some y →
      y.don = y0.don ∧ y.minute = y0.minute ∧ (y.kept = true → y0.kept = true ∧ ∀ e ∈ G, ∀ n ∈ s.needs, e.step ≠ n) := by
    intro q s y0 hs hy0
    refine snoc_ind (fun _ y hy => ?_) fun G x ih hG y hy => ?_
    · rw [List.append_nil, hy0] at hy; cases hy
      exact ⟨rfl, rfl, fun h => ⟨h, fun e he => by cases he⟩⟩
    · rw [← List.append_assoc, bookOf_snoc] at hy
      have hyl : q < (bookOf l (ev ++ G)).length := by rw [bookOf_len]; exact (List.getElem?_eq_some_iff.1 hs).1
      obtain ⟨y1, hy1⟩ : ∃ y, (bookOf l (ev ++ G))[q]? = some y := ⟨_, List.getElem?_eq_getElem hyl⟩
      rw [addS_at hs hy1] at hy
      obtain ⟨i1, i2, i3⟩ := ih (fun e he => hG e (by simp [he])) _ hy1
      cases hy
      unfold addOne
      rw [if_neg (fun e => hG x (by simp) e.symm)]
      by_cases hh : s.warm < max (x.warmth - y1.warmth) (-(x.warmth - y1.warmth)) ∨ (s.needs.any fun n => decide (x.step = n)) = true
      · rw [if_pos hh]
        exact ⟨i1, i2, fun h => by cases h⟩
      · rw [if_neg hh]
        refine ⟨i1, i2, fun h => ⟨(i3 h).1, fun e he n hn => ?_⟩⟩
        rcases List.mem_append.1 he with he | he
        · exact (i3 h).2 e he n hn
        · simp at he; subst he
          intro e2
          exact hh (.inr (List.any_eq_true.2 ⟨n, hn, by simpa using e2⟩))
  intro q
  induction q using Nat.strongRecOn with
  | _ q ih =>
    intro hql hv hG
    obtain ⟨s, hs⟩ : ∃ s, l[q]? = some s := ⟨_, List.getElem?_eq_getElem hql⟩
    obtain ⟨y0, hy0⟩ : ∃ y, (bookOf l ev)[q]? = some y := ⟨_, List.getElem?_eq_getElem (by rw [bookOf_len]; exact hql)⟩
    obtain ⟨y, hy⟩ : ∃ y, (bookOf l (ev ++ G))[q]? = some y := ⟨_, List.getElem?_eq_getElem (by rw [bookOf_len]; exact hql)⟩
    obtain ⟨r1, r2, r3⟩ := hrec q _ _ hs hy0 G hG _ hy
    cases hres : validS l (bookOf l (ev ++ G)) q m with
    | false => rfl
    | true =>
      exfalso
      rw [validS_eq hr hs hy, Bool.and_eq_true, Bool.and_eq_true, Bool.and_eq_true] at hres
      obtain ⟨⟨⟨h1, h2⟩, h3⟩, h4⟩ := hres
      obtain ⟨k1, k2⟩ := r3 h2
      rw [validS_eq hr hs hy0, ← r1, h1, k1, ← r2, h3] at hv
      simp only [Bool.and_self, Bool.true_and] at hv
      rw [List.all_eq_false] at hv
      obtain ⟨n, hn, hf⟩ := hv
      obtain ⟨a1, a2⟩ := (hr.each q _ hs).2.2.2.2 n hn
      have := ih n.toNat (by omega) (by omega) (by simpa using hf) (fun e he => by rw [Int.toNat_of_nonneg a1]; exact k2 e he n hn)
      have h5 := List.all_eq_true.1 h4 n hn
      rw [this] at h5; cases h5
end Go.Proofs.Ytgdcidbpadhkpaa.Am.M
