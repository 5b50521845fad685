/- Contracts over the abstract machine, joined. Conditions: none. -/
import Derived.Test.YtkbdnkjjklbddaaGreatDoorFacts
import Derived.Test.YtkbdnkjjklbddaaGreatDoorAmD
import Derived.Laws.FloatArith
import Derived.Laws.ComplexArith
set_option linter.unusedVariables false
set_option linter.unusedSimpArgs false
namespace Go.Proofs.YtkbdnkjjklbddaaGreatDoor.Am.M
open Go

def iC (x : Int) : List D := [.v (.int .i64 x)]
def inR (lo n hi : Int) : Bool := decide (lo ≤ n) && decide (n ≤ hi)
def firstE : List Int → Int
  | [] => 0
  | x :: xs => if x = 0 then firstE xs else x
theorem mulb {a b A B : Int} (h1 : -A ≤ a) (h2 : a ≤ A) (h3 : -B ≤ b) (h4 : b ≤ B) : -(A * B) ≤ a * b ∧ a * b ≤ A * B := by
  have hA : 0 ≤ A := by omega
  have hB : 0 ≤ B := by omega
  have k1 : 0 ≤ (A - a) * (B + b) := Int.mul_nonneg (by omega) (by omega)
  have k2 : 0 ≤ (A + a) * (B - b) := Int.mul_nonneg (by omega) (by omega)
  have k3 : 0 ≤ (A - a) * (B - b) := Int.mul_nonneg (by omega) (by omega)
  have k4 : 0 ≤ (A + a) * (B + b) := Int.mul_nonneg (by omega) (by omega)
  rw [Int.sub_mul, Int.mul_add, Int.mul_add] at k1
  rw [Int.add_mul, Int.mul_sub, Int.mul_sub] at k2
  rw [Int.sub_mul, Int.mul_sub, Int.mul_sub] at k3
  rw [Int.add_mul, Int.mul_add, Int.mul_add] at k4
  generalize A * B = AB at *
  generalize A * b = Ab at *
  generalize a * B = aB at *
  generalize a * b = ab at *
  omega
def Sm (n : Int) : Prop := -4611686018427387904 ≤ n ∧ n ≤ 4611686018427387904
theorem tdiv_sm {a b : Int} (h : Sm a) (hb : 0 < b) : Sm (a.tdiv b) := by
  obtain ⟨h1, h2⟩ := h
  have hd := Int.mul_tdiv_add_tmod a b
  rcases (show a < 0 ∨ 0 ≤ a by omega) with ha | ha
  · have e : a.tdiv b = -((-a).tdiv b) := by rw [Int.neg_tdiv, Int.neg_neg]
    have e2 : (-a).tdiv b = (-a) / b := Int.tdiv_eq_ediv_of_nonneg (by omega)
    have h3 : 0 ≤ (-a) / b := Int.ediv_nonneg (by omega) (by omega)
    have h4 : (-a) / b ≤ -a := Int.ediv_le_self _ (by omega)
    rw [e, e2]; constructor <;> omega
  · have e2 : a.tdiv b = a / b := Int.tdiv_eq_ediv_of_nonneg ha
    have h3 : 0 ≤ a / b := Int.ediv_nonneg ha (by omega)
    have h4 : a / b ≤ a := Int.ediv_le_self _ ha
    rw [e2]; constructor <;> omega
theorem floor_law {n b : Int} (hb : 0 < b) : (if n.tmod b < 0 then n.tdiv b - 1 else n.tdiv b) = n / b := by
  have h1 := Int.mul_tdiv_add_tmod n b
  have h2 := Int.mul_ediv_add_emod n b
  have h3 := Int.emod_nonneg n (by omega : b ≠ 0)
  have h4 := Int.emod_lt_of_pos n hb
  have h5 : -b < n.tmod b := by
    rcases (show n < 0 ∨ 0 ≤ n by omega) with hn | hn
    · have e : n.tmod b = -((-n).tmod b) := by rw [Int.neg_tmod, Int.neg_neg]
      rw [e, Int.tmod_eq_emod_of_nonneg (by omega)]
      have := Int.emod_lt_of_pos (-n) hb
      omega
    · rw [Int.tmod_eq_emod_of_nonneg hn]
      have := Int.emod_nonneg n (by omega : b ≠ 0)
      omega
  have h6 : n.tmod b < b := Int.tmod_lt_of_pos n hb
  have key : ∀ q r q' r' : Int, b * q + r = n → b * q' + r' = n → 0 ≤ r → r < b → 0 ≤ r' → r' < b → q = q' := by
    intro q r q' r' e1 e2 a1 a2 a3 a4
    rcases Int.lt_trichotomy q q' with h | h | h
    · have : b * (q + 1) ≤ b * q' := Int.mul_le_mul_of_nonneg_left (by omega) (by omega)
      rw [Int.mul_add] at this; omega
    · exact h
    · have : b * (q' + 1) ≤ b * q := Int.mul_le_mul_of_nonneg_left (by omega) (by omega)
      rw [Int.mul_add] at this; omega
  split
  · exact key (n.tdiv b - 1) (n.tmod b + b) _ _ (by rw [Int.mul_sub]; omega) h2 (by omega) (by omega) h3 h4
  · exact key (n.tdiv b) (n.tmod b) _ _ h1 h2 (by omega) (by omega) h3 h4
def shC (x : Int × Int) : List D := [.v (.int .i64 x.1), .v (.int .i64 x.2)]
theorem ediv_sm {a b : Int} (h : Sm a) (hb : 0 < b) : -4611686018427387904 ≤ a / b ∧ a / b ≤ 4611686018427387904 := by
  obtain ⟨h1, h2⟩ := h
  refine ⟨?_, ?_⟩
  · rw [Int.le_ediv_iff_mul_le hb]
    have : b * 1 ≤ b * 4611686018427387904 := Int.mul_le_mul_of_nonneg_left (by omega) (by omega)
    rw [Int.mul_comm] at this; omega
  · rcases (show a < 0 ∨ 0 ≤ a by omega) with ha | ha
    · have := Int.ediv_neg_of_neg_of_pos ha hb; omega
    · have := Int.ediv_le_self b ha; omega
def ceilI (n b : Int) : Int := -((-n) / b)
def idxOf {α : Type} (f : α → Bool) : Nat → List α → Int
  | _, [] => -1
  | i, x :: xs => if f x = true then (i : Int) else idxOf f (i + 1) xs
def rb (n : Int) : Nat → Int → Int
  | 0, r => r
  | k + 1, r => rb n k (if (r + 2 ^ k) * (r + 2 ^ k) ≤ n then r + 2 ^ k else r)
def rootI (n : Int) : Int := rb n 31 0
theorem rb_spec {n : Int} : ∀ {k : Nat} {r : Int}, 0 ≤ r → r * r ≤ n → n < (r + 2 ^ k) * (r + 2 ^ k) → 0 ≤ rb n k r ∧ rb n k r * rb n k r ≤ n ∧ n < (rb n k r + 1) * (rb n k r + 1) ∧ rb n k r < r + 2 ^ k
  | 0, r, h0, h1, h2 => ⟨h0, h1, (show n < (r + 1) * (r + 1) by simpa using h2), (show r < r + 2 ^ 0 by omega)⟩
  | k + 1, r, h0, h1, h2 => by
    have hp : (0 : Int) < 2 ^ k := Int.pow_pos (by omega)
    have e : (2 : Int) ^ (k + 1) = 2 ^ k + 2 ^ k := by rw [Int.pow_succ]; omega
    unfold rb
    split
    · rename_i h
      obtain ⟨a, b, c, d⟩ := rb_spec (k := k) (r := r + 2 ^ k) (by omega) h (by rw [e] at h2; rw [Int.add_assoc]; exact h2)
      exact ⟨a, b, c, by omega⟩
    · rename_i h
      obtain ⟨a, b, c, d⟩ := rb_spec (k := k) (r := r) h0 h1 (by omega)
      exact ⟨a, b, c, by omega⟩
theorem root_spec {n : Int} (h0 : 0 ≤ n) (h1 : n < 4611686018427387904) : 0 ≤ rootI n ∧ rootI n * rootI n ≤ n ∧ n < (rootI n + 1) * (rootI n + 1) ∧ rootI n < 2147483648 := by
  have := rb_spec (n := n) (k := 31) (r := 0) (by omega) (by omega) (by simpa using h1)
  simpa [rootI] using this
theorem sq_lt {a b : Int} (h : 0 ≤ b) (hl : a * a < b * b) : a < b := by
  by_cases h1 : a < b
  · exact h1
  · have h2 := Int.mul_le_mul (show b ≤ a by omega) (show b ≤ a by omega) h (by omega)
    omega
theorem sq_le {a b : Int} (h : 0 ≤ a) (hl : a ≤ b) : a * a ≤ b * b := Int.mul_le_mul hl hl h (by omega)
theorem root_iff {n r : Int} (h0 : 0 ≤ n) (h1 : n < 4611686018427387904) (hr : 0 ≤ r) : n < r * r ↔ rootI n < r := by
  obtain ⟨a, b, c, d⟩ := root_spec h0 h1
  constructor
  · intro h; exact sq_lt hr (by omega)
  · intro h
    have := sq_le (show 0 ≤ rootI n + 1 by omega) (show rootI n + 1 ≤ r by omega)
    omega
def bsr (f : Int → Bool) : Nat → Int → Int → Int
  | 0, i, _ => i
  | k + 1, i, j => if i < j then (if f ((i + j) / 2) = true then bsr f k i ((i + j) / 2) else bsr f k ((i + j) / 2 + 1) j) else i
def srch (f : Int → Bool) (n : Int) : Int := bsr f 62 0 n
theorem bsr_step {f : Int → Bool} {k : Nat} {i j : Int} (h : i < j) : bsr f (k + 1) i j = if f ((i + j) / 2) = true then bsr f k i ((i + j) / 2) else bsr f k ((i + j) / 2 + 1) j := by rw [bsr, if_pos h]
theorem bsr_stop {f : Int → Bool} {k : Nat} {i j : Int} (h : ¬ i < j) : bsr f k i j = i := by
  cases k with
  | zero => rfl
  | succ k => rw [bsr, if_neg h]
theorem bsr_in {f : Int → Bool} : ∀ {k : Nat} {i j : Int}, i ≤ j → i ≤ bsr f k i j ∧ bsr f k i j ≤ j
  | 0, i, j, h => ⟨Int.le_refl _, h⟩
  | k + 1, i, j, h => by
    unfold bsr
    split
    · split
      · have := bsr_in (f := f) (k := k) (i := i) (j := (i + j) / 2) (by omega); omega
      · have := bsr_in (f := f) (k := k) (i := (i + j) / 2 + 1) (j := j) (by omega); omega
    · omega
theorem bsr_eq {f : Int → Bool} {m : Int} : ∀ {k : Nat} {i j : Int}, i ≤ m → m ≤ j → j - i < 2 ^ k → (∀ h, i ≤ h → h < m → f h = false) → (∀ h, m ≤ h → h < j → f h = true) → bsr f k i j = m
  | 0, i, j, h1, h2, h3, _, _ => by simp at h3; unfold bsr; omega
  | k + 1, i, j, h1, h2, h3, h4, h5 => by
    have e : (2 : Int) ^ (k + 1) = 2 ^ k + 2 ^ k := by rw [Int.pow_succ]; omega
    unfold bsr
    by_cases hij : i < j
    · rw [if_pos hij]
      cases hf : f ((i + j) / 2) with
      | true =>
        rw [if_pos rfl]
        have hm : m ≤ (i + j) / 2 := by
          by_cases q : m ≤ (i + j) / 2
          · exact q
          · rw [h4 _ (by omega) (by omega)] at hf; cases hf
        exact bsr_eq h1 hm (by omega) h4 (fun h a b => h5 h a (by omega))
      | false =>
        rw [if_neg (by simp)]
        have hm : (i + j) / 2 < m := by
          by_cases q : (i + j) / 2 < m
          · exact q
          · rw [h5 _ (by omega) (by omega)] at hf; cases hf
        exact bsr_eq (by omega) h2 (by omega) (fun h a b => h4 h (by omega) b) h5
    · rw [if_neg hij]; omega
theorem srch_eq {f : Int → Bool} {m n : Int} (h1 : 0 ≤ m) (h2 : m ≤ n) (h3 : n < 4611686018427387904) (h4 : ∀ h, 0 ≤ h → h < m → f h = false) (h5 : ∀ h, m ≤ h → h < n → f h = true) : srch f n = m :=
  bsr_eq h1 h2 (by simpa using h3) h4 h5
theorem root_srch {n : Int} (h0 : 0 ≤ n) (h1 : n < 4611686018427387904) : srch (fun r => decide (n < r * r)) 2147483648 - 1 = rootI n := by
  obtain ⟨a, b, c, d⟩ := root_spec h0 h1
  have : srch (fun r => decide (n < r * r)) 2147483648 = rootI n + 1 := srch_eq (by omega) (by omega) (by omega)
    (fun h q1 q2 => decide_eq_false fun q => by have := (root_iff h0 h1 q1).1 q; omega) (fun h q1 q2 => decide_eq_true ((root_iff h0 h1 (by omega)).2 (by omega)))
  omega
abbrev Rg := Int × Int
def lenI (x z : Int) : Rg := (rootI (1000000 * (x * x + z * z)), if rootI (1000000 * (x * x + z * z)) * rootI (1000000 * (x * x + z * z)) < 1000000 * (x * x + z * z) then rootI (1000000 * (x * x + z * z)) + 1 else rootI (1000000 * (x * x + z * z)))
def timI (r : Rg) (v : Int) : Rg := (r.1 * 10000 / v, ceilI (r.2 * 10000) v)
structure Crs where
  x1 : Int
  h1 : Int
  v1 : Int
  x2 : Int
  h2 : Int
  v2 : Int
def crsC (x : Crs) : List D := [.v (.int .i64 x.x1), .v (.int .i64 x.h1), .v (.int .i64 x.v1), .v (.int .i64 x.x2), .v (.int .i64 x.h2), .v (.int .i64 x.v2)]
structure CrsOk (x : Crs) : Prop where
  a1 : -100000 ≤ x.x1
  a2 : x.x1 ≤ 100000
  b1 : -100000 ≤ x.x2
  b2 : x.x2 ≤ 100000
  c1 : 1 ≤ x.h1
  c2 : x.h1 ≤ 100000
  d1 : 1 ≤ x.h2
  d2 : x.h2 ≤ 100000
  e1 : 500 ≤ x.v1
  e2 : x.v1 ≤ 10000
  f1 : 500 ≤ x.v2
  f2 : x.v2 ≤ 10000
def sgnI (a b : Int) : Int := if a = b then 0 else if a < b then -1 else 1
def oneI (x : Crs) (at_ : Int) : Int := ((at_ - x.x1) * x.v2 * (at_ - x.x1) * x.v2) * ((x.x2 - at_) * (x.x2 - at_) + x.h2 * x.h2)
def twoI (x : Crs) (at_ : Int) : Int := ((x.x2 - at_) * x.v1 * (x.x2 - at_) * x.v1) * ((at_ - x.x1) * (at_ - x.x1) + x.h1 * x.h1)
def slopeI (x : Crs) (at_ : Int) : Int := if x.x2 < x.x1 then -(sgnI (oneI x at_) (twoI x at_)) else sgnI (oneI x at_) (twoI x at_)
def loX (x : Crs) : Int := min x.x1 x.x2
def hiX (x : Crs) : Int := max x.x1 x.x2
def crossI (x : Crs) : Int := loX x - 1 + srch (fun n => decide (0 < slopeI x (loX x + n))) (hiX x - loX x + 1)
def timeAtI (x : Crs) (at_ : Int) : Rg := ((timI (lenI (at_ - x.x1) x.h1) x.v1).1 + (timI (lenI (x.x2 - at_) x.h2) x.v2).1, (timI (lenI (at_ - x.x1) x.h1) x.v1).2 + (timI (lenI (x.x2 - at_) x.h2) x.v2).2)
def least0 (x : Crs) : Rg := if inR (loX x) (crossI x + 1) (hiX x) = true then (min (timeAtI x (crossI x)).1 (timeAtI x (crossI x + 1)).1, min (timeAtI x (crossI x)).2 (timeAtI x (crossI x + 1)).2) else timeAtI x (crossI x)
def leastI (x : Crs) : Rg := (max 0 ((least0 x).1 - ceilI 10000000 (x.v1 * x.h1) - ceilI 10000000 (x.v2 * x.h2)), (least0 x).2)
theorem sgn_pos {a b : Int} : 0 < sgnI a b ↔ b < a := by
  unfold sgnI
  by_cases h : a = b
  · rw [if_pos h]; omega
  · rw [if_neg h]
    by_cases h' : a < b
    · rw [if_pos h']; omega
    · rw [if_neg h']; omega
theorem sgn_neg {a b : Int} : sgnI a b < 0 ↔ a < b := by
  unfold sgnI
  by_cases h : a = b
  · rw [if_pos h]; omega
  · rw [if_neg h]
    by_cases h' : a < b
    · rw [if_pos h']; omega
    · rw [if_neg h']; omega
theorem slope_lo {x : Crs} (hx : CrsOk x) : ¬ 0 < slopeI x (loX x) := by
  intro h
  unfold slopeI loX at h
  by_cases hlt : x.x2 < x.x1
  · rw [if_pos hlt, show min x.x1 x.x2 = x.x2 by omega] at h
    have h1 : oneI x x.x2 < twoI x x.x2 := sgn_neg.1 (by omega)
    have e2 : twoI x x.x2 = 0 := by unfold twoI; rw [Int.sub_self]; simp
    have e1 : 0 ≤ oneI x x.x2 := by
      unfold oneI
      refine Int.mul_nonneg ?_ ?_
      · have : (x.x2 - x.x1) * x.v2 * (x.x2 - x.x1) * x.v2 = ((x.x1 - x.x2) * x.v2) * ((x.x1 - x.x2) * x.v2) := by grind
        rw [this]
        have := Int.mul_nonneg (show 0 ≤ x.x1 - x.x2 by omega) (show 0 ≤ x.v2 by have := hx.f1; omega)
        exact Int.mul_nonneg this this
      · have := Int.mul_nonneg (show 0 ≤ x.h2 by have := hx.d1; omega) (show 0 ≤ x.h2 by have := hx.d1; omega)
        rw [Int.sub_self]; omega
    omega
  · rw [if_neg hlt, show min x.x1 x.x2 = x.x1 by omega] at h
    have h1 := sgn_pos.1 h
    have e1 : oneI x x.x1 = 0 := by unfold oneI; rw [Int.sub_self]; simp
    have e2 : 0 ≤ twoI x x.x1 := by
      unfold twoI
      refine Int.mul_nonneg ?_ ?_
      · have : (x.x2 - x.x1) * x.v1 * (x.x2 - x.x1) * x.v1 = ((x.x2 - x.x1) * x.v1) * ((x.x2 - x.x1) * x.v1) := by grind
        rw [this]
        have := Int.mul_nonneg (show 0 ≤ x.x2 - x.x1 by omega) (show 0 ≤ x.v1 by have := hx.e1; omega)
        exact Int.mul_nonneg this this
      · have := Int.mul_nonneg (show 0 ≤ x.h1 by have := hx.c1; omega) (show 0 ≤ x.h1 by have := hx.c1; omega)
        rw [Int.sub_self]; omega
    omega
theorem bsr_ends {f : Int → Bool} {i0 j0 : Int} : ∀ {k : Nat} {i j : Int}, i ≤ j → j - i < 2 ^ k → (i = i0 ∨ f (i - 1) = false) → (j = j0 ∨ f j = true) → (bsr f k i j = i0 ∨ f (bsr f k i j - 1) = false) ∧ (bsr f k i j = j0 ∨ f (bsr f k i j) = true)
  | 0, i, j, h, h3, h1, h2 => by
    simp at h3
    have : i = j := by omega
    subst this
    exact ⟨h1, h2⟩
  | k + 1, i, j, h, h3, h1, h2 => by
    have e : (2 : Int) ^ (k + 1) = 2 ^ k + 2 ^ k := by rw [Int.pow_succ]; omega
    by_cases hij : i < j
    · rw [bsr_step hij]
      cases hf : f ((i + j) / 2) with
      | true => rw [if_pos rfl]; exact bsr_ends (by omega) (by omega) h1 (.inr hf)
      | false => rw [if_neg (by simp)]; exact bsr_ends (by omega) (by omega) (.inr (by rw [show (i + j) / 2 + 1 - 1 = (i + j) / 2 by omega]; exact hf)) h2
    · rw [bsr_stop hij]
      have : i = j := by omega
      subst this
      exact ⟨h1, h2⟩
theorem cross_spec {x : Crs} (hx : CrsOk x) : loX x ≤ crossI x ∧ crossI x ≤ hiX x ∧ ¬ 0 < slopeI x (crossI x) ∧ (crossI x = hiX x ∨ 0 < slopeI x (crossI x + 1)) := by
  have hb : loX x ≤ hiX x ∧ -100000 ≤ loX x ∧ hiX x ≤ 100000 := by
    obtain ⟨a1, a2, b1, b2, _⟩ := hx
    unfold loX hiX; omega
  have h0 := slope_lo hx
  have h1 := bsr_in (f := fun n => decide (0 < slopeI x (loX x + n))) (k := 62) (i := 0) (j := hiX x - loX x + 1) (by omega)
  have h2 := bsr_ends (f := fun n => decide (0 < slopeI x (loX x + n))) (i0 := 0) (j0 := hiX x - loX x + 1) (k := 62) (i := 0) (j := hiX x - loX x + 1) (by omega) (by omega) (.inl rfl) (.inl rfl)
  have e : bsr (fun n => decide (0 < slopeI x (loX x + n))) 62 0 (hiX x - loX x + 1) = crossI x - (loX x - 1) := by unfold crossI srch; omega
  rw [e] at h1 h2
  simp only [decide_eq_true_eq, decide_eq_false_iff_not] at h2
  obtain ⟨h3, h4⟩ := h2
  have hpos : loX x ≤ crossI x := by
    by_cases q : loX x ≤ crossI x
    · exact q
    · exfalso
      have q2 : crossI x = loX x - 1 := by omega
      rcases h4 with h4 | h4
      · omega
      · rw [show loX x + (crossI x - (loX x - 1)) = loX x by omega] at h4; exact h0 h4
  refine ⟨hpos, by omega, ?_, ?_⟩
  · rcases h3 with h3 | h3
    · omega
    · rwa [show loX x + (crossI x - (loX x - 1) - 1) = crossI x by omega] at h3
  · rcases h4 with h4 | h4
    · left; omega
    · right; rwa [show loX x + (crossI x - (loX x - 1)) = crossI x + 1 by omega] at h4
open Go

variable {f : Ieee.Format} {p L I : Nat}
def wd (f : Ieee.Format) (a : Int) : Nat := f.nearest (decide (a < 0)) a.natAbs 0
open Go

end Go.Proofs.YtkbdnkjjklbddaaGreatDoor.Am.M
