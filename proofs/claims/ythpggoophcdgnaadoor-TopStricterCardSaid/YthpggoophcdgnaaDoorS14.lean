/- Contracts over the abstract machine: chapter 9: plain law. Conditions: none. -/
import Derived.Test.YthpggoophcdgnaaDoorS13
set_option linter.unusedVariables false
set_option linter.unusedSimpArgs false
namespace Go.Proofs.YthpggoophcdgnaaDoor.Am.M
open Go

def bitsK (f : Nat → Bool) : Nat → Nat
  | 0 => 0
  | k + 1 => if f k = true then bitsK f k ||| 2 ^ k else bitsK f k
theorem bitsK_test (f : Nat → Bool) : ∀ k i, (bitsK f k).testBit i = (decide (i < k) && f i)
  | 0, i => by simp [bitsK]
  | k + 1, i => by
    have ih := bitsK_test f k i
    by_cases e : i = k
    · subst e
      unfold bitsK
      split
      · rename_i h; simp [Nat.testBit_or, Nat.testBit_two_pow, h]
      · rename_i h; rw [ih]; simp [h]
    · have e' : ¬ k = i := fun h => e h.symm
      have e2 : decide (i < k + 1) = decide (i < k) := by rw [decide_eq_decide]; omega
      rw [e2]
      unfold bitsK
      split
      · rw [Nat.testBit_or, ih, Nat.testBit_two_pow]; simp [e']
      · exact ih
def hb (l : List Rw) (m : Mk) (i : Nat) : Bool := match l[i]? with | some r => hasB r.bx m | none => false
def hb3 (l : List Rw) (m : Mk) (i : Nat) : Bool := match l[i]? with | some r => has3 r.bx m | none => false
def inQ (l : List Rw) (q : Nat) (x : Int) (i : Nat) : Bool := match l[i]? with | some r => inR (r.bx.at q).1 x (r.bx.at q).2 | none => false
def qS (l : List Rw) (q : Nat) (x : Int) : Nat := bitsK (inQ l q x) l.length
theorem sOfK_bits (l : List Rw) (m : Mk) : ∀ k, sOfK l m k = bitsK (hb l m) k
  | 0 => rfl
  | k + 1 => by
    rw [sOfK, bitsK, sOfK_bits l m k]
    unfold hb
    cases l[k]? <;> simp
theorem s3K_bits (l : List Rw) (m : Mk) : ∀ k, s3K l m k = bitsK (hb3 l m) k
  | 0 => rfl
  | k + 1 => by
    rw [s3K, bitsK, s3K_bits l m k]
    unfold hb3
    cases l[k]? <;> simp
theorem sOf_test (l : List Rw) (m : Mk) (i : Nat) : (sOf l m).testBit i = (decide (i < l.length) && hb l m i) := by unfold sOf; rw [sOfK_bits, bitsK_test]
theorem hb_q (l : List Rw) (m : Mk) (i : Nat) : hb l m i = (inQ l 0 m.x0 i && inQ l 1 m.x1 i && inQ l 2 m.x2 i && inQ l 3 m.x3 i && inQ l 4 m.x4 i && inQ l 5 m.x5 i) := by
  unfold hb inQ
  cases l[i]? <;> rfl
theorem hb3_q (l : List Rw) (m : Mk) (i : Nat) : hb3 l m i = (inQ l 0 m.x0 i && inQ l 1 m.x1 i && inQ l 2 m.x2 i) := by
  unfold hb3 inQ
  cases l[i]? <;> rfl
theorem ctz_bit {s : Nat} (h0 : s ≠ 0) (h : s < 2 ^ 64) : s.testBit (ctz s) = true ∧ ∀ i, i < ctz s → s.testBit i = false := by
  obtain ⟨m, e, _⟩ := ctz_spec h0 h
  generalize ctz s = j at *
  subst e
  refine ⟨?_, fun i hi => ?_⟩
  · rw [Nat.testBit_two_pow_mul]
    simp
  · rw [Nat.testBit_two_pow_mul]
    simp; omega
def accM : List Rw → Mk → Bool
  | [], _ => false
  | r :: l, m => if hasB r.bx m = true then decide (r.de = 0) else accM l m
theorem accM_none {m : Mk} : ∀ {l : List Rw}, (∀ i, i < l.length → hb l m i = false) → accM l m = false
  | [], _ => rfl
  | r :: l, h => by
    have h0 : hasB r.bx m = false := h 0 (by simp)
    rw [accM, if_neg (by rw [h0]; decide)]
    exact accM_none fun i hi => h (i + 1) (by simpa using hi)
theorem accM_first {m : Mk} : ∀ {l : List Rw} {j : Nat} {r : Rw}, l[j]? = some r → hasB r.bx m = true → (∀ i, i < j → hb l m i = false) → accM l m = decide (r.de = 0)
  | [], _, _, h, _, _ => by cases h
  | r0 :: l, 0, r, h, h1, _ => by
    cases h
    rw [accM, if_pos h1]
  | r0 :: l, j + 1, r, h, h1, h2 => by
    have h0 : hasB r0.bx m = false := h2 0 (Nat.succ_pos j)
    rw [accM, if_neg (by rw [h0]; decide)]
    exact accM_first (l := l) (j := j) h h1 fun i hi => h2 (i + 1) (Nat.succ_lt_succ hi)
theorem acc_law {l : List Rw} (m : Mk) (hl : l.length ≤ 60) : accB l (sOf l m) = accM l m := by
  have h64 : sOf l m < 2 ^ 64 := Nat.lt_of_lt_of_le (sOf_lt l m hl) (Nat.pow_le_pow_right (by decide) (by decide))
  by_cases h0 : sOf l m = 0
  · have hn : ∀ i, i < l.length → hb l m i = false := fun i hi => by
      have := sOf_test l m i
      rw [h0] at this
      simpa [hi] using this.symm
    rw [accM_none hn]
    unfold accB decS
    rw [if_pos h0]; rfl
  · obtain ⟨b1, b2⟩ := ctz_bit h0 h64
    rw [sOf_test, Bool.and_eq_true, decide_eq_true_eq] at b1
    obtain ⟨hlt, hh⟩ := b1
    have hx : l[ctz (sOf l m)]? = some l[ctz (sOf l m)] := List.getElem?_eq_getElem hlt
    have h1 : hasB l[ctz (sOf l m)].bx m = true := by unfold hb at hh; rw [hx] at hh; exact hh
    rw [accM_first hx h1 fun i hi => by
      have := b2 i hi
      rw [sOf_test] at this
      simpa [show i < l.length by omega] using this]
    unfold accB decS
    rw [if_neg h0, hx]; rfl
theorem accM_rej {m : Mk} : ∀ {r l : List Rw}, (∀ y ∈ r, y.de = 1) → accM (r ++ l) m = true → accM l m = true
  | [], _, _, h => h
  | y :: r, l, hr, h => by
    rw [List.cons_append, accM] at h
    split at h
    · rw [hr y (by simp)] at h; cases h
    · exact accM_rej (fun z hz => hr z (by simp [hz])) h

/- the cells -/
theorem cellK_bit {l : List Rw} {q : Nat} {lo whi : Int} {s : Nat} : ∀ (k i : Nat), (cellK l q lo whi s k).2.testBit i = (decide (i < k) && (s.testBit i && inQ l q lo i))
  | 0, i => by simp [cellK]
  | k + 1, i => by
    have ih := cellK_bit (l := l) (q := q) (lo := lo) (whi := whi) (s := s) k i
    by_cases e : i = k
    · subst e
      rw [cellK]
      by_cases hs : s.testBit i = true
      · rw [if_pos hs]
        cases hx : l[i]? with
        | none => show (cellK l q lo whi s i).2.testBit i = _; rw [ih]; simp [inQ, hx]
        | some r =>
          show (stepC _ _ _ _).2.testBit i = _
          have hq : inQ l q lo i = inR (r.bx.at q).1 lo (r.bx.at q).2 := by simp [inQ, hx]
          rw [hq]
          unfold stepC
          split
          · rename_i h1
            show (cellK l q lo whi s i).2.testBit i = _
            rw [ih]; simp [inR]; omega
          · split
            · rename_i h1 h2
              show Nat.testBit (_ ||| _) i = _
              rw [Nat.testBit_or, ih, Nat.testBit_two_pow]
              simp [inR, hs]; omega
            · rename_i h1 h2
              rw [ih]; simp [inR]; omega
      · rw [if_neg hs, ih]; simp [hs]
    · have e' : ¬ k = i := fun h => e h.symm
      have e2 : decide (i < k + 1) = decide (i < k) := by rw [decide_eq_decide]; omega
      rw [e2, ← ih, cellK]
      split
      · cases l[k]? with
        | none => rfl
        | some r =>
          show (stepC _ _ _ _).2.testBit i = _
          unfold stepC
          split
          · rfl
          · split
            · show Nat.testBit (_ ||| _) i = _
              rw [Nat.testBit_or, Nat.testBit_two_pow]; simp [e']
            · rfl
      · rfl
theorem cellK_same {l : List Rw} {q : Nat} {lo whi : Int} {s : Nat} : ∀ (k : Nat) (x : Int) (i : Nat), lo ≤ x → x ≤ (cellK l q lo whi s k).1 → i < k → s.testBit i = true → inQ l q x i = inQ l q lo i
  | 0, _, _, _, _, h, _ => by omega
  | k + 1, x, i, h1, h2, h3, h4 => by
    have ih := cellK_same (l := l) (q := q) (lo := lo) (whi := whi) (s := s) k x i h1
    rw [cellK] at h2
    by_cases hs : s.testBit k = true
    · rw [if_pos hs] at h2
      cases hx : l[k]? with
      | none =>
        rw [hx] at h2
        by_cases e : i = k
        · subst e; simp [inQ, hx]
        · exact ih h2 (by omega) h4
      | some r =>
        rw [hx] at h2
        change x ≤ (stepC _ _ _ _).1 at h2
        unfold stepC at h2
        split at h2
        · rename_i g1
          change x ≤ min _ _ at h2
          by_cases e : i = k
          · subst e; simp [inQ, hx, inR]
            rw [show decide ((r.bx.at q).1 ≤ x) = false from decide_eq_false (by omega), show decide ((r.bx.at q).1 ≤ lo) = false from decide_eq_false (by omega)]; rfl
          · exact ih (by omega) (by omega) h4
        · split at h2
          · rename_i g1 g2
            change x ≤ min _ _ at h2
            by_cases e : i = k
            · subst e; simp [inQ, hx, inR]
              rw [show decide ((r.bx.at q).1 ≤ x) = true from decide_eq_true (by omega), show decide ((r.bx.at q).1 ≤ lo) = true from decide_eq_true (by omega), show decide (x ≤ (r.bx.at q).2) = true from decide_eq_true (by omega), show decide (lo ≤ (r.bx.at q).2) = true from decide_eq_true (by omega)]
            · exact ih (by omega) (by omega) h4
          · rename_i g1 g2
            by_cases e : i = k
            · subst e; simp [inQ, hx, inR]
              rw [show decide (x ≤ (r.bx.at q).2) = false from decide_eq_false (by omega), show decide (lo ≤ (r.bx.at q).2) = false from decide_eq_false (by omega)]; simp
            · exact ih h2 (by omega) h4
    · rw [if_neg hs] at h2
      by_cases e : i = k
      · subst e; rw [h4] at hs; exact absurd rfl hs
      · exact ih h2 (by omega) h4
theorem clF_form {l : List Rw} {q : Nat} {whi : Int} {s : Nat} : ∀ {n : Nat} {lo : Int} {y : Cl}, y ∈ clF l q whi s n lo → y = clN l q whi s y.lo
  | 0, _, _, h => by cases h
  | n + 1, lo, y, h => by
    rw [clF] at h
    split at h
    · rcases List.mem_cons.1 h with rfl | h
      · rfl
      · exact clF_form h
    · cases h
theorem clF_cover {l : List Rw} (hok : RwsOk l) {q : Nat} (hq : q < 6) {whi : Int} {s : Nat} : ∀ {n : Nat} {lo x : Int}, lo ≤ x → x ≤ whi → (whi + 1 - lo).toNat ≤ n → ∃ y ∈ clF l q whi s n lo, y.lo ≤ x ∧ x ≤ y.hi
  | 0, lo, x, h1, h2, h3 => by omega
  | n + 1, lo, x, h1, h2, h3 => by
    have hle : lo ≤ whi := by omega
    obtain ⟨b1, b2, _⟩ := cellK_bnd hok hq s hle l.length
    rw [clF, if_pos hle]
    have e : (clN l q whi s lo).hi = (cellK l q lo whi s l.length).1 := rfl
    by_cases h : x ≤ (clN l q whi s lo).hi
    · exact ⟨_, List.mem_cons_self, h1, h⟩
    · obtain ⟨y, hy, h4⟩ := clF_cover hok hq (s := s) (n := n) (lo := (clN l q whi s lo).hi + 1) (x := x) (by omega) h2 (by omega)
      exact ⟨y, List.mem_cons_of_mem _ hy, h4⟩
theorem cells_cover {l : List Rw} (hok : RwsOk l) {q : Nat} (hq : q < 6) {w : Int × Int} {s : Nat} {x : Int} (h1 : w.1 ≤ x) (h2 : x ≤ w.2) : ∃ y ∈ cells l q w s, y.lo ≤ x ∧ x ≤ y.hi := clF_cover hok hq h1 h2 (Nat.le_refl _)
theorem cells_set {l : List Rw} {q : Nat} {w : Int × Int} {s : Nat} {y : Cl} (h : y ∈ cells l q w s) {x : Int} (h1 : y.lo ≤ x) (h2 : x ≤ y.hi) : s &&& y.inn = s &&& qS l q x := by
  have e := clF_form h
  apply Nat.eq_of_testBit_eq
  intro i
  rw [Nat.testBit_and, Nat.testBit_and]
  have e1 : y.inn = (cellK l q y.lo w.2 s l.length).2 := congrArg Cl.inn e
  have e2 : y.hi = (cellK l q y.lo w.2 s l.length).1 := congrArg Cl.hi e
  rw [e1, cellK_bit, qS, bitsK_test]
  cases hs : s.testBit i with
  | false => rfl
  | true =>
    by_cases hi : i < l.length
    · rw [cellK_same l.length x i h1 (by rw [← e2]; exact h2) hi hs]; simp
    · simp [hi]
/- the search -/
def ExP (F : Nat → Bool) (l : List Rw) (b : Bx) : Nat → Nat → Nat → Prop
  | 0, _, one => F one = true
  | n + 1, c, one => ∃ x, (b.at c).1 ≤ x ∧ x ≤ (b.at c).2 ∧ ExP F l b n (c + 1) (one &&& qS l c x)
theorem exp_cells {F : Nat → Bool} {l : List Rw} (hok : RwsOk l) {b : Bx} {n c one : Nat} (hc : c < 6) : ExP F l b (n + 1) c one ↔ ∃ y ∈ cells l c (b.at c) one, ExP F l b n (c + 1) (one &&& y.inn) := by
  constructor
  · rintro ⟨x, h1, h2, h3⟩
    obtain ⟨y, hy, h4, h5⟩ := cells_cover hok hc (s := one) h1 h2
    exact ⟨y, hy, by rw [cells_set hy h4 h5]; exact h3⟩
  · rintro ⟨y, hy, h⟩
    obtain ⟨h1, h2, h3, _⟩ := cells_in hok hc hy
    exact ⟨y.lo, h1, by omega, by rw [← cells_set hy (Int.le_refl _) h2]; exact h⟩
def InvM (F : Nat → Bool) (l : List Rw) (b : Bx) (es : Mem) : Prop := ∀ c one r, lookM (c, one, 0) es = some r → (r.isSome = true ↔ ExP F l b (6 - c) c one)
theorem look_app {k : Key} {p : Key × Option Mk} {r : Option Mk} : ∀ {es : Mem}, lookM k (es ++ [p]) = some r → lookM k es = some r ∨ (k = p.1 ∧ r = p.2)
  | [], h => by
    simp only [List.nil_append, lookM] at h
    split at h
    · cases h; exact .inr ⟨by assumption, rfl⟩
    · cases h
  | q :: es, h => by
    simp only [List.cons_append, lookM] at h ⊢
    split at h
    · rename_i e; rw [if_pos e]; exact .inl h
    · rename_i e; rw [if_neg e]; exact look_app h
theorem loop_law {F : Nat → Bool} {l : List Rw} {b : Bx} {g : Cl → Mem → Option Mk × Mem} {Q : Cl → Prop} (hg : ∀ y es, InvM F l b es → (((g y es).1.isSome = true ↔ Q y) ∧ InvM F l b (g y es).2)) : ∀ (xs : List Cl) (es : Mem), InvM F l b es → (((loopM g xs es).1.isSome = true ↔ ∃ y ∈ xs, Q y) ∧ InvM F l b (loopM g xs es).2)
  | [], es, h => ⟨by simp [loopM], h⟩
  | y :: xs, es, h => by
    obtain ⟨h1, h2⟩ := hg y es h
    rw [loopM]
    cases hm : (g y es).1 with
    | some m =>
      rw [hm] at h1
      exact ⟨⟨fun _ => ⟨y, List.mem_cons_self, h1.1 rfl⟩, fun _ => rfl⟩, h2⟩
    | none =>
      rw [hm] at h1
      obtain ⟨h3, h4⟩ := loop_law hg xs _ h2
      refine ⟨⟨fun q => ?_, fun ⟨z, hz, hq⟩ => ?_⟩, h4⟩
      · obtain ⟨z, hz, hq⟩ := h3.1 q
        exact ⟨z, List.mem_cons_of_mem _ hz, hq⟩
      · rcases List.mem_cons.1 hz with rfl | hz
        · have := h1.2 hq; cases this
        · exact h3.2 ⟨z, hz, hq⟩
theorem lsM_law {F : Nat → Bool} {l : List Rw} (hok : RwsOk l) {b : Bx} : ∀ (n c one : Nat) (es : Mem), c + n = 6 → InvM F l b es → (((lsM (fun one _ => F one) l b n c one 0 es).1.isSome = true ↔ ExP F l b n c one) ∧ InvM F l b (lsM (fun one _ => F one) l b n c one 0 es).2)
  | 0, c, one, es, h, hi => by
    rw [lsM]
    refine ⟨?_, hi⟩
    show (if F one = true then some zMk else none).isSome = true ↔ F one = true
    split <;> simp_all
  | n + 1, c, one, es, h, hi => by
    have e6 : 6 - c = n + 1 := by omega
    cases hl : lookM (c, one, 0) es with
    | some r =>
      rw [lsM_some hl]
      have := hi c one r hl
      rw [e6] at this
      exact ⟨this, hi⟩
    | none =>
      have hg : ∀ y es, InvM F l b es → (((lsG (fun one _ => F one) l b n c one 0 y es).1.isSome = true ↔ ExP F l b n (c + 1) (one &&& y.inn)) ∧ InvM F l b (lsG (fun one _ => F one) l b n c one 0 y es).2) := fun y es h2 => by
        unfold lsG
        rw [Nat.zero_and]
        obtain ⟨q1, q2⟩ := lsM_law hok n (c + 1) (one &&& y.inn) es (by omega) h2
        exact ⟨by rw [Option.isSome_map]; exact q1, q2⟩
      obtain ⟨q1, q2⟩ := loop_law hg (cells l c (b.at c) (one ||| 0)) es hi
      rw [lsM_none (r := (loopM (lsG (fun one _ => F one) l b n c one 0) (cells l c (b.at c) (one ||| 0)) es).1) (es' := (loopM (lsG (fun one _ => F one) l b n c one 0) (cells l c (b.at c) (one ||| 0)) es).2) hl rfl]
      have q3 : (loopM (lsG (fun one _ => F one) l b n c one 0) (cells l c (b.at c) (one ||| 0)) es).1.isSome = true ↔ ExP F l b (n + 1) c one := by
        rw [exp_cells hok (by omega), q1, Nat.or_zero]
      refine ⟨q3, fun c' one' r hr => ?_⟩
      rcases look_app hr with h3 | ⟨h3, h4⟩
      · exact q2 c' one' r h3
      · simp only [Prod.mk.injEq] at h3
        obtain ⟨rfl, rfl, _⟩ := h3
        rw [h4, e6]; exact q3
end Go.Proofs.YthpggoophcdgnaaDoor.Am.M
