/- Contracts over the abstract machine, joined. Conditions: none. -/
import Derived.Test.YtcdccdcbfbakfaaGreatDoorFacts
import Derived.Test.YtcdccdcbfbakfaaGreatDoorAmD
import Derived.Laws.FloatArith
import Derived.Laws.ComplexArith
set_option linter.unusedVariables false
set_option linter.unusedSimpArgs false
namespace Go.Proofs.YtcdccdcbfbakfaaGreatDoor.Am.M
open Go

def iC (x : Int) : List D := [.v (.int .i64 x)]
def inR (lo n hi : Int) : Bool := decide (lo ≤ n) && decide (n ≤ hi)
def firstE : List Int → Int
  | [] => 0
  | x :: xs => if x = 0 then firstE xs else x
theorem mulb {a b A B : Int} (h1 : -A ≤ a) (h2 : a ≤ A) (h3 : -B ≤ b) (h4 : b ≤ B) : -(A * B) ≤ a * b ∧ a * b ≤ A * B := by
  have hA : 0 ≤ A := by omega
  have hB : 0 ≤ B := by omega
  have k1 : 0 ≤ (A - a) * (B + b) := Int.mul_nonneg (by omega) (by omega)
  have k2 : 0 ≤ (A + a) * (B - b) := Int.mul_nonneg (by omega) (by omega)
  have k3 : 0 ≤ (A - a) * (B - b) := Int.mul_nonneg (by omega) (by omega)
  have k4 : 0 ≤ (A + a) * (B + b) := Int.mul_nonneg (by omega) (by omega)
  rw [Int.sub_mul, Int.mul_add, Int.mul_add] at k1
  rw [Int.add_mul, Int.mul_sub, Int.mul_sub] at k2
  rw [Int.sub_mul, Int.mul_sub, Int.mul_sub] at k3
  rw [Int.add_mul, Int.mul_add, Int.mul_add] at k4
  generalize A * B = AB at *
  generalize A * b = Ab at *
  generalize a * B = aB at *
  generalize a * b = ab at *
  omega
def Sm (n : Int) : Prop := -4611686018427387904 ≤ n ∧ n ≤ 4611686018427387904
theorem tdiv_sm {a b : Int} (h : Sm a) (hb : 0 < b) : Sm (a.tdiv b) := by
  obtain ⟨h1, h2⟩ := h
  have hd := Int.mul_tdiv_add_tmod a b
  rcases (show a < 0 ∨ 0 ≤ a by omega) with ha | ha
  · have e : a.tdiv b = -((-a).tdiv b) := by rw [Int.neg_tdiv, Int.neg_neg]
    have e2 : (-a).tdiv b = (-a) / b := Int.tdiv_eq_ediv_of_nonneg (by omega)
    have h3 : 0 ≤ (-a) / b := Int.ediv_nonneg (by omega) (by omega)
    have h4 : (-a) / b ≤ -a := Int.ediv_le_self _ (by omega)
    rw [e, e2]; constructor <;> omega
  · have e2 : a.tdiv b = a / b := Int.tdiv_eq_ediv_of_nonneg ha
    have h3 : 0 ≤ a / b := Int.ediv_nonneg ha (by omega)
    have h4 : a / b ≤ a := Int.ediv_le_self _ ha
    rw [e2]; constructor <;> omega
theorem floor_law {n b : Int} (hb : 0 < b) : (if n.tmod b < 0 then n.tdiv b - 1 else n.tdiv b) = n / b := by
  have h1 := Int.mul_tdiv_add_tmod n b
  have h2 := Int.mul_ediv_add_emod n b
  have h3 := Int.emod_nonneg n (by omega : b ≠ 0)
  have h4 := Int.emod_lt_of_pos n hb
  have h5 : -b < n.tmod b := by
    rcases (show n < 0 ∨ 0 ≤ n by omega) with hn | hn
    · have e : n.tmod b = -((-n).tmod b) := by rw [Int.neg_tmod, Int.neg_neg]
      rw [e, Int.tmod_eq_emod_of_nonneg (by omega)]
      have := Int.emod_lt_of_pos (-n) hb
      omega
    · rw [Int.tmod_eq_emod_of_nonneg hn]
      have := Int.emod_nonneg n (by omega : b ≠ 0)
      omega
  have h6 : n.tmod b < b := Int.tmod_lt_of_pos n hb
  have key : ∀ q r q' r' : Int, b * q + r = n → b * q' + r' = n → 0 ≤ r → r < b → 0 ≤ r' → r' < b → q = q' := by
    intro q r q' r' e1 e2 a1 a2 a3 a4
    rcases Int.lt_trichotomy q q' with h | h | h
    · have : b * (q + 1) ≤ b * q' := Int.mul_le_mul_of_nonneg_left (by omega) (by omega)
      rw [Int.mul_add] at this; omega
    · exact h
    · have : b * (q' + 1) ≤ b * q := Int.mul_le_mul_of_nonneg_left (by omega) (by omega)
      rw [Int.mul_add] at this; omega
  split
  · exact key (n.tdiv b - 1) (n.tmod b + b) _ _ (by rw [Int.mul_sub]; omega) h2 (by omega) (by omega) h3 h4
  · exact key (n.tdiv b) (n.tmod b) _ _ h1 h2 (by omega) (by omega) h3 h4
def shC (x : Int × Int) : List D := [.v (.int .i64 x.1), .v (.int .i64 x.2)]
theorem ediv_sm {a b : Int} (h : Sm a) (hb : 0 < b) : -4611686018427387904 ≤ a / b ∧ a / b ≤ 4611686018427387904 := by
  obtain ⟨h1, h2⟩ := h
  refine ⟨?_, ?_⟩
  · rw [Int.le_ediv_iff_mul_le hb]
    have : b * 1 ≤ b * 4611686018427387904 := Int.mul_le_mul_of_nonneg_left (by omega) (by omega)
    rw [Int.mul_comm] at this; omega
  · rcases (show a < 0 ∨ 0 ≤ a by omega) with ha | ha
    · have := Int.ediv_neg_of_neg_of_pos ha hb; omega
    · have := Int.ediv_le_self b ha; omega
def ceilI (n b : Int) : Int := -((-n) / b)
def idxOf {α : Type} (f : α → Bool) : Nat → List α → Int
  | _, [] => -1
  | i, x :: xs => if f x = true then (i : Int) else idxOf f (i + 1) xs
def rb (n : Int) : Nat → Int → Int
  | 0, r => r
  | k + 1, r => rb n k (if (r + 2 ^ k) * (r + 2 ^ k) ≤ n then r + 2 ^ k else r)
def rootI (n : Int) : Int := rb n 31 0
theorem rb_spec {n : Int} : ∀ {k : Nat} {r : Int}, 0 ≤ r → r * r ≤ n → n < (r + 2 ^ k) * (r + 2 ^ k) → 0 ≤ rb n k r ∧ rb n k r * rb n k r ≤ n ∧ n < (rb n k r + 1) * (rb n k r + 1) ∧ rb n k r < r + 2 ^ k
  | 0, r, h0, h1, h2 => ⟨h0, h1, (show n < (r + 1) * (r + 1) by simpa using h2), (show r < r + 2 ^ 0 by omega)⟩
  | k + 1, r, h0, h1, h2 => by
    have hp : (0 : Int) < 2 ^ k := Int.pow_pos (by omega)
    have e : (2 : Int) ^ (k + 1) = 2 ^ k + 2 ^ k := by rw [Int.pow_succ]; omega
    unfold rb
    split
    · rename_i h
      obtain ⟨a, b, c, d⟩ := rb_spec (k := k) (r := r + 2 ^ k) (by omega) h (by rw [e] at h2; rw [Int.add_assoc]; exact h2)
      exact ⟨a, b, c, by omega⟩
    · rename_i h
      obtain ⟨a, b, c, d⟩ := rb_spec (k := k) (r := r) h0 h1 (by omega)
      exact ⟨a, b, c, by omega⟩
theorem root_spec {n : Int} (h0 : 0 ≤ n) (h1 : n < 4611686018427387904) : 0 ≤ rootI n ∧ rootI n * rootI n ≤ n ∧ n < (rootI n + 1) * (rootI n + 1) ∧ rootI n < 2147483648 := by
  have := rb_spec (n := n) (k := 31) (r := 0) (by omega) (by omega) (by simpa using h1)
  simpa [rootI] using this
theorem sq_lt {a b : Int} (h : 0 ≤ b) (hl : a * a < b * b) : a < b := by
  by_cases h1 : a < b
  · exact h1
  · have h2 := Int.mul_le_mul (show b ≤ a by omega) (show b ≤ a by omega) h (by omega)
    omega
theorem sq_le {a b : Int} (h : 0 ≤ a) (hl : a ≤ b) : a * a ≤ b * b := Int.mul_le_mul hl hl h (by omega)
theorem root_iff {n r : Int} (h0 : 0 ≤ n) (h1 : n < 4611686018427387904) (hr : 0 ≤ r) : n < r * r ↔ rootI n < r := by
  obtain ⟨a, b, c, d⟩ := root_spec h0 h1
  constructor
  · intro h; exact sq_lt hr (by omega)
  · intro h
    have := sq_le (show 0 ≤ rootI n + 1 by omega) (show rootI n + 1 ≤ r by omega)
    omega
def bsr (f : Int → Bool) : Nat → Int → Int → Int
  | 0, i, _ => i
  | k + 1, i, j => if i < j then (if f ((i + j) / 2) = true then bsr f k i ((i + j) / 2) else bsr f k ((i + j) / 2 + 1) j) else i
def srch (f : Int → Bool) (n : Int) : Int := bsr f 62 0 n
theorem bsr_step {f : Int → Bool} {k : Nat} {i j : Int} (h : i < j) : bsr f (k + 1) i j = if f ((i + j) / 2) = true then bsr f k i ((i + j) / 2) else bsr f k ((i + j) / 2 + 1) j := by rw [bsr, if_pos h]
theorem bsr_stop {f : Int → Bool} {k : Nat} {i j : Int} (h : ¬ i < j) : bsr f k i j = i := by
  cases k with
  | zero => rfl
  | succ k => rw [bsr, if_neg h]
theorem bsr_in {f : Int → Bool} : ∀ {k : Nat} {i j : Int}, i ≤ j → i ≤ bsr f k i j ∧ bsr f k i j ≤ j
  | 0, i, j, h => ⟨Int.le_refl _, h⟩
  | k + 1, i, j, h => by
    unfold bsr
    split
    · split
      · have := bsr_in (f := f) (k := k) (i := i) (j := (i + j) / 2) (by omega); omega
      · have := bsr_in (f := f) (k := k) (i := (i + j) / 2 + 1) (j := j) (by omega); omega
    · omega
theorem bsr_eq {f : Int → Bool} {m : Int} : ∀ {k : Nat} {i j : Int}, i ≤ m → m ≤ j → j - i < 2 ^ k → (∀ h, i ≤ h → h < m → f h = false) → (∀ h, m ≤ h → h < j → f h = true) → bsr f k i j = m
  | 0, i, j, h1, h2, h3, _, _ => by simp at h3; unfold bsr; omega
  | k + 1, i, j, h1, h2, h3, h4, h5 => by
    have e : (2 : Int) ^ (k + 1) = 2 ^ k + 2 ^ k := by rw [Int.pow_succ]; omega
    unfold bsr
    by_cases hij : i < j
    · rw [if_pos hij]
      cases hf : f ((i + j) / 2) with
      | true =>
        rw [if_pos rfl]
        have hm : m ≤ (i + j) / 2 := by
          by_cases q : m ≤ (i + j) / 2
          · exact q
          · rw [h4 _ (by omega) (by omega)] at hf; cases hf
        exact bsr_eq h1 hm (by omega) h4 (fun h a b => h5 h a (by omega))
      | false =>
        rw [if_neg (by simp)]
        have hm : (i + j) / 2 < m := by
          by_cases q : (i + j) / 2 < m
          · exact q
          · rw [h5 _ (by omega) (by omega)] at hf; cases hf
        exact bsr_eq (by omega) h2 (by omega) (fun h a b => h4 h (by omega) b) h5
    · rw [if_neg hij]; omega
theorem srch_eq {f : Int → Bool} {m n : Int} (h1 : 0 ≤ m) (h2 : m ≤ n) (h3 : n < 4611686018427387904) (h4 : ∀ h, 0 ≤ h → h < m → f h = false) (h5 : ∀ h, m ≤ h → h < n → f h = true) : srch f n = m :=
  bsr_eq h1 h2 (by simpa using h3) h4 h5
theorem root_srch {n : Int} (h0 : 0 ≤ n) (h1 : n < 4611686018427387904) : srch (fun r => decide (n < r * r)) 2147483648 - 1 = rootI n := by
  obtain ⟨a, b, c, d⟩ := root_spec h0 h1
  have : srch (fun r => decide (n < r * r)) 2147483648 = rootI n + 1 := srch_eq (by omega) (by omega) (by omega)
    (fun h q1 q2 => decide_eq_false fun q => by have := (root_iff h0 h1 q1).1 q; omega) (fun h q1 q2 => decide_eq_true ((root_iff h0 h1 (by omega)).2 (by omega)))
  omega
abbrev Rg := Int × Int
def lenI (x z : Int) : Rg := (rootI (1000000 * (x * x + z * z)), if rootI (1000000 * (x * x + z * z)) * rootI (1000000 * (x * x + z * z)) < 1000000 * (x * x + z * z) then rootI (1000000 * (x * x + z * z)) + 1 else rootI (1000000 * (x * x + z * z)))
def timI (r : Rg) (v : Int) : Rg := (r.1 * 10000 / v, ceilI (r.2 * 10000) v)
structure Crs where
  x1 : Int
  h1 : Int
  v1 : Int
  x2 : Int
  h2 : Int
  v2 : Int
def crsC (x : Crs) : List D := [.v (.int .i64 x.x1), .v (.int .i64 x.h1), .v (.int .i64 x.v1), .v (.int .i64 x.x2), .v (.int .i64 x.h2), .v (.int .i64 x.v2)]
structure CrsOk (x : Crs) : Prop where
  a1 : -100000 ≤ x.x1
  a2 : x.x1 ≤ 100000
  b1 : -100000 ≤ x.x2
  b2 : x.x2 ≤ 100000
  c1 : 1 ≤ x.h1
  c2 : x.h1 ≤ 100000
  d1 : 1 ≤ x.h2
  d2 : x.h2 ≤ 100000
  e1 : 500 ≤ x.v1
  e2 : x.v1 ≤ 10000
  f1 : 500 ≤ x.v2
  f2 : x.v2 ≤ 10000
def sgnI (a b : Int) : Int := if a = b then 0 else if a < b then -1 else 1
def oneI (x : Crs) (at_ : Int) : Int := ((at_ - x.x1) * x.v2 * (at_ - x.x1) * x.v2) * ((x.x2 - at_) * (x.x2 - at_) + x.h2 * x.h2)
def twoI (x : Crs) (at_ : Int) : Int := ((x.x2 - at_) * x.v1 * (x.x2 - at_) * x.v1) * ((at_ - x.x1) * (at_ - x.x1) + x.h1 * x.h1)
def slopeI (x : Crs) (at_ : Int) : Int := if x.x2 < x.x1 then -(sgnI (oneI x at_) (twoI x at_)) else sgnI (oneI x at_) (twoI x at_)
def loX (x : Crs) : Int := min x.x1 x.x2
def hiX (x : Crs) : Int := max x.x1 x.x2
def crossI (x : Crs) : Int := loX x - 1 + srch (fun n => decide (0 < slopeI x (loX x + n))) (hiX x - loX x + 1)
def timeAtI (x : Crs) (at_ : Int) : Rg := ((timI (lenI (at_ - x.x1) x.h1) x.v1).1 + (timI (lenI (x.x2 - at_) x.h2) x.v2).1, (timI (lenI (at_ - x.x1) x.h1) x.v1).2 + (timI (lenI (x.x2 - at_) x.h2) x.v2).2)
def least0 (x : Crs) : Rg := if inR (loX x) (crossI x + 1) (hiX x) = true then (min (timeAtI x (crossI x)).1 (timeAtI x (crossI x + 1)).1, min (timeAtI x (crossI x)).2 (timeAtI x (crossI x + 1)).2) else timeAtI x (crossI x)
def leastI (x : Crs) : Rg := (max 0 ((least0 x).1 - ceilI 10000000 (x.v1 * x.h1) - ceilI 10000000 (x.v2 * x.h2)), (least0 x).2)
theorem sgn_pos {a b : Int} : 0 < sgnI a b ↔ b < a := by
  unfold sgnI
  by_cases h : a = b
  · rw [if_pos h]; omega
  · rw [if_neg h]
    by_cases h' : a < b
    · rw [if_pos h']; omega
    · rw [if_neg h']; omega
theorem sgn_neg {a b : Int} : sgnI a b < 0 ↔ a < b := by
  unfold sgnI
  by_cases h : a = b
  · rw [if_pos h]; omega
  · rw [if_neg h]
    by_cases h' : a < b
    · rw [if_pos h']; omega
    · rw [if_neg h']; omega
theorem slope_lo {x : Crs} (hx : CrsOk x) : ¬ 0 < slopeI x (loX x) := by
  intro h
  unfold slopeI loX at h
  by_cases hlt : x.x2 < x.x1
  · rw [if_pos hlt, show min x.x1 x.x2 = x.x2 by omega] at h
    have h1 : oneI x x.x2 < twoI x x.x2 := sgn_neg.1 (by omega)
    have e2 : twoI x x.x2 = 0 := by unfold twoI; rw [Int.sub_self]; simp
    have e1 : 0 ≤ oneI x x.x2 := by
      unfold oneI
      refine Int.mul_nonneg ?_ ?_
      · have : (x.x2 - x.x1) * x.v2 * (x.x2 - x.x1) * x.v2 = ((x.x1 - x.x2) * x.v2) * ((x.x1 - x.x2) * x.v2) := by grind
        rw [this]
        have := Int.mul_nonneg (show 0 ≤ x.x1 - x.x2 by omega) (show 0 ≤ x.v2 by have := hx.f1; omega)
        exact Int.mul_nonneg this this
      · have := Int.mul_nonneg (show 0 ≤ x.h2 by have := hx.d1; omega) (show 0 ≤ x.h2 by have := hx.d1; omega)
        rw [Int.sub_self]; omega
    omega
  · rw [if_neg hlt, show min x.x1 x.x2 = x.x1 by omega] at h
    have h1 := sgn_pos.1 h
    have e1 : oneI x x.x1 = 0 := by unfold oneI; rw [Int.sub_self]; simp
    have e2 : 0 ≤ twoI x x.x1 := by
      unfold twoI
      refine Int.mul_nonneg ?_ ?_
      · have : (x.x2 - x.x1) * x.v1 * (x.x2 - x.x1) * x.v1 = ((x.x2 - x.x1) * x.v1) * ((x.x2 - x.x1) * x.v1) := by grind
        rw [this]
        have := Int.mul_nonneg (show 0 ≤ x.x2 - x.x1 by omega) (show 0 ≤ x.v1 by have := hx.e1; omega)
        exact Int.mul_nonneg this this
      · have := Int.mul_nonneg (show 0 ≤ x.h1 by have := hx.c1; omega) (show 0 ≤ x.h1 by have := hx.c1; omega)
        rw [Int.sub_self]; omega
    omega
theorem bsr_ends {f : Int → Bool} {i0 j0 : Int} : ∀ {k : Nat} {i j : Int}, i ≤ j → j - i < 2 ^ k → (i = i0 ∨ f (i - 1) = false) → (j = j0 ∨ f j = true) → (bsr f k i j = i0 ∨ f (bsr f k i j - 1) = false) ∧ (bsr f k i j = j0 ∨ f (bsr f k i j) = true)
  | 0, i, j, h, h3, h1, h2 => by
    simp at h3
    have : i = j := by omega
    subst this
    exact ⟨h1, h2⟩
  | k + 1, i, j, h, h3, h1, h2 => by
    have e : (2 : Int) ^ (k + 1) = 2 ^ k + 2 ^ k := by rw [Int.pow_succ]; omega
    by_cases hij : i < j
    · rw [bsr_step hij]
      cases hf : f ((i + j) / 2) with
      | true => rw [if_pos rfl]; exact bsr_ends (by omega) (by omega) h1 (.inr hf)
      | false => rw [if_neg (by simp)]; exact bsr_ends (by omega) (by omega) (.inr (by rw [show (i + j) / 2 + 1 - 1 = (i + j) / 2 by omega]; exact hf)) h2
    · rw [bsr_stop hij]
      have : i = j := by omega
      subst this
      exact ⟨h1, h2⟩
theorem cross_spec {x : Crs} (hx : CrsOk x) : loX x ≤ crossI x ∧ crossI x ≤ hiX x ∧ ¬ 0 < slopeI x (crossI x) ∧ (crossI x = hiX x ∨ 0 < slopeI x (crossI x + 1)) := by
  have hb : loX x ≤ hiX x ∧ -100000 ≤ loX x ∧ hiX x ≤ 100000 := by
    obtain ⟨a1, a2, b1, b2, _⟩ := hx
    unfold loX hiX; omega
  have h0 := slope_lo hx
  have h1 := bsr_in (f := fun n => decide (0 < slopeI x (loX x + n))) (k := 62) (i := 0) (j := hiX x - loX x + 1) (by omega)
  have h2 := bsr_ends (f := fun n => decide (0 < slopeI x (loX x + n))) (i0 := 0) (j0 := hiX x - loX x + 1) (k := 62) (i := 0) (j := hiX x - loX x + 1) (by omega) (by omega) (.inl rfl) (.inl rfl)
  have e : bsr (fun n => decide (0 < slopeI x (loX x + n))) 62 0 (hiX x - loX x + 1) = crossI x - (loX x - 1) := by unfold crossI srch; omega
  rw [e] at h1 h2
  simp only [decide_eq_true_eq, decide_eq_false_iff_not] at h2
  obtain ⟨h3, h4⟩ := h2
  have hpos : loX x ≤ crossI x := by
    by_cases q : loX x ≤ crossI x
    · exact q
    · exfalso
      have q2 : crossI x = loX x - 1 := by omega
      rcases h4 with h4 | h4
      · omega
      · rw [show loX x + (crossI x - (loX x - 1)) = loX x by omega] at h4; exact h0 h4
  refine ⟨hpos, by omega, ?_, ?_⟩
  · rcases h3 with h3 | h3
    · omega
    · rwa [show loX x + (crossI x - (loX x - 1) - 1) = crossI x by omega] at h3
  · rcases h4 with h4 | h4
    · left; omega
    · right; rwa [show loX x + (crossI x - (loX x - 1)) = crossI x + 1 by omega] at h4
open Go

structure Fm (f : Ieee.Format) (p L I : Nat) : Prop where
  fb : f.fractionBits = p
  lp : f.leastPlace = -(L : Int)
  pl : p ≤ L
  li : L + 2 ≤ I
  inf : f.infRung = I * 2 ^ p
  sw : f.signWeight = (I + 1) * 2 ^ p
  bn : f.binade = 2 ^ p
theorem fmS : Fm Ieee.single 23 149 255 := ⟨rfl, by decide, by decide, by decide, by decide, by decide, by decide⟩
theorem log2_mul {c d : Nat} (hc : c ≠ 0) : (c * 2 ^ d).log2 = c.log2 + d := by
  induction d with
  | zero => simp
  | succ d ih =>
    rw [Nat.pow_succ, ← Nat.mul_assoc, Nat.mul_comm _ 2, Nat.log2_two_mul (by have := Nat.two_pow_pos d; exact Nat.mul_ne_zero hc (by omega)), ih]
    omega
theorem cut_even {neg : Bool} {c d : Nat} (hc : c ≠ 0) : Ieee.Toward.even.cut neg (c * 2 ^ d) d = c := by
  have hl := log2_mul (d := d) hc
  have hm : min d ((c * 2 ^ d).log2 + 2) = d := by rw [hl]; omega
  have hp := Nat.two_pow_pos d
  unfold Ieee.Toward.cut
  simp only [hm, Nat.one_shiftLeft, Nat.mul_div_cancel _ hp, Nat.mul_mod_left]
  have : (2 ^ d == 2 * 0) = false := by simp
  simp
theorem cut_zero {neg : Bool} {c d : Nat} : Ieee.Toward.zero.cut neg (c * 2 ^ d) d = c := by
  have hp := Nat.two_pow_pos d
  unfold Ieee.Toward.cut
  by_cases hc : c = 0
  · subst hc; simp
  have hl := log2_mul (d := d) hc
  have hm : min d ((c * 2 ^ d).log2 + 2) = d := by rw [hl]; omega
  simp only [hm, Nat.one_shiftLeft, Nat.mul_div_cancel _ hp]
  simp
variable {f : Ieee.Format} {p L I : Nat}
theorem log_le {n : Nat} (hn : 0 < n) (hlt : n < 2 ^ (p + 1)) : n.log2 ≤ p := by
  have := (Nat.log2_lt (by omega)).2 hlt
  omega
theorem nearest_at (h : Fm f p L I) (neg : Bool) {n : Nat} (K : Nat) (hn : 0 < n) (hlt : n < 2 ^ (p + 1)) :
    f.nearest neg (n * 2 ^ K) (-(K : Int)) = f.word neg (min ((L + n.log2 - p) * 2 ^ p + n * 2 ^ (p - n.log2)) (I * 2 ^ p)) := by
  have hl := log2_mul (d := K) (show n ≠ 0 by omega)
  have hle := log_le hn hlt
  have hK := Nat.two_pow_pos K
  have hpl := h.pl
  unfold Ieee.Format.nearest
  rw [if_neg (Nat.mul_ne_zero (by omega) (by omega)), hl, h.fb, h.lp, h.bn, h.inf]
  simp only
  have hlast : max (-(K : Int) + ((n.log2 + K : Nat) : Int) - (p : Int)) (-(L : Int)) = (n.log2 : Int) - p := by omega
  rw [hlast]
  congr 2
  have e1 : ((n.log2 : Int) - p - -(L : Int)).toNat = L + n.log2 - p := by omega
  rw [e1]
  congr 1
  by_cases hk : K ≤ p - n.log2
  · have e2 : (-(K : Int) - ((n.log2 : Int) - p)).toNat = p - n.log2 - K := by omega
    have e3 : ((n.log2 : Int) - p - -(K : Int)).toNat = 0 := by omega
    rw [e2, e3, Nat.shiftLeft_eq, Nat.mul_assoc, ← Nat.pow_add, show K + (p - n.log2 - K) = p - n.log2 by omega]
    have := cut_even (neg := neg) (c := n * 2 ^ (p - n.log2)) (d := 0) (Nat.mul_ne_zero (by omega) (by have := Nat.two_pow_pos (p - n.log2); omega))
    rwa [Nat.pow_zero, Nat.mul_one] at this
  · have e2 : (-(K : Int) - ((n.log2 : Int) - p)).toNat = 0 := by omega
    have e3 : ((n.log2 : Int) - p - -(K : Int)).toNat = K - (p - n.log2) := by omega
    rw [e2, e3, Nat.shiftLeft_eq, Nat.pow_zero, Nat.mul_one]
    have e4 : n * 2 ^ K = n * 2 ^ (p - n.log2) * 2 ^ (K - (p - n.log2)) := by rw [Nat.mul_assoc, ← Nat.pow_add, show p - n.log2 + (K - (p - n.log2)) = K by omega]
    rw [e4]
    exact cut_even (Nat.mul_ne_zero (by omega) (by have := Nat.two_pow_pos (p - n.log2); omega))
theorem nearest_zero (neg : Bool) (e : Int) : f.nearest neg 0 e = f.word neg 0 := by unfold Ieee.Format.nearest; rw [if_pos rfl]
theorem nearest_shift (h : Fm f p L I) (neg : Bool) {n : Nat} (K : Nat) (hlt : n < 2 ^ (p + 1)) : f.nearest neg (n * 2 ^ K) (-(K : Int)) = f.nearest neg n 0 := by
  by_cases hn : n = 0
  · subst hn; rw [Nat.zero_mul, nearest_zero, nearest_zero]
  · rw [nearest_at h neg K (by omega) hlt]
    have := nearest_at h neg 0 (n := n) (by omega) hlt
    rw [Nat.pow_zero, Nat.mul_one] at this
    exact this.symm
theorem read_word (h : Fm f p L I) (neg : Bool) {E r : Nat} (hE : E + 1 < I) (hr : r < 2 ^ p) : f.read (f.word neg (E * 2 ^ p + (2 ^ p + r))) = .number neg (2 ^ p + r) ((E : Int) - L) := by
  have hp := Nat.two_pow_pos p
  have hlt : E * 2 ^ p + (2 ^ p + r) < I * 2 ^ p := by
    have := Nat.mul_le_mul_right (2 ^ p) (show E + 2 ≤ I by omega)
    have e : (E + 2) * 2 ^ p = E * 2 ^ p + 2 * 2 ^ p := Nat.add_mul ..
    omega
  have hsw : f.signWeight = I * 2 ^ p + 2 ^ p := by rw [h.sw, Nat.add_mul, Nat.one_mul]
  have hq : (E * 2 ^ p + (2 ^ p + r)) % 2 ^ p = r := by
    rw [show E * 2 ^ p + (2 ^ p + r) = r + 2 ^ p * (E + 1) by grind, Nat.add_mul_mod_self_left, Nat.mod_eq_of_lt hr]
  have hd : (E * 2 ^ p + (2 ^ p + r)) / 2 ^ p = E + 1 := by
    rw [show E * 2 ^ p + (2 ^ p + r) = r + 2 ^ p * (E + 1) by grind, Nat.add_mul_div_left _ _ hp, Nat.div_eq_of_lt hr]; omega
  unfold Ieee.Format.read Ieee.Format.word
  have hm : (if neg = true then f.signWeight + (E * 2 ^ p + (2 ^ p + r)) else E * 2 ^ p + (2 ^ p + r)) % f.signWeight = E * 2 ^ p + (2 ^ p + r) := by
    cases neg
    · simp only [Bool.false_eq_true, if_false]; exact Nat.mod_eq_of_lt (by omega)
    · simp only [if_true]; rw [Nat.add_mod_left]; exact Nat.mod_eq_of_lt (by omega)
  have hs : ((if neg = true then f.signWeight + (E * 2 ^ p + (2 ^ p + r)) else E * 2 ^ p + (2 ^ p + r)) / f.signWeight % 2 == 1) = neg := by
    cases neg
    · simp only [Bool.false_eq_true, if_false]; rw [Nat.div_eq_of_lt (by omega)]; rfl
    · simp only [if_true]; rw [Nat.add_div_left _ (by omega), Nat.div_eq_of_lt (by omega)]; rfl
  simp only [hm, hs, h.bn, h.inf, h.lp]
  rw [if_neg (by omega), if_pos hlt, hq, hd]
  congr 1
  omega
theorem read_zero (h : Fm f p L I) (neg : Bool) : f.read (f.word neg 0) = .number neg 0 (-(L : Int)) := by
  have hp := Nat.two_pow_pos p
  have hsw : f.signWeight = I * 2 ^ p + 2 ^ p := by rw [h.sw, Nat.add_mul, Nat.one_mul]
  unfold Ieee.Format.read Ieee.Format.word
  have hm : (if neg = true then f.signWeight + 0 else 0) % f.signWeight = 0 := by cases neg <;> simp
  have hs : ((if neg = true then f.signWeight + 0 else 0) / f.signWeight % 2 == 1) = neg := by
    cases neg
    · simp
    · simp only [if_true, Nat.add_zero]; rw [Nat.div_self (by omega)]; rfl
  simp only [hm, hs, h.bn, h.lp]
  rw [if_pos hp]
theorem read_nearest (h : Fm f p L I) (neg : Bool) {n : Nat} (hlt : n < 2 ^ (p + 1)) : ∃ k : Nat, f.read (f.nearest neg n 0) = .number neg (n * 2 ^ k) (-(k : Int)) := by
  by_cases hn : n = 0
  · subst hn
    rw [nearest_zero]
    exact ⟨L, by rw [read_zero h, Nat.zero_mul]⟩
  · have hle := log_le (by omega) hlt
    have h0 := nearest_at h neg 0 (n := n) (by omega) hlt
    rw [Nat.pow_zero, Nat.mul_one] at h0
    have hpl := h.pl
    have hli := h.li
    have hp := Nat.two_pow_pos p
    have g1 : 2 ^ p ≤ n * 2 ^ (p - n.log2) := by
      have := Nat.mul_le_mul_right (2 ^ (p - n.log2)) (Nat.log2_self_le hn)
      rwa [← Nat.pow_add, show n.log2 + (p - n.log2) = p by omega] at this
    have g2 : n * 2 ^ (p - n.log2) < 2 ^ p + 2 ^ p := by
      have := Nat.mul_lt_mul_of_pos_right (Nat.lt_log2_self (n := n)) (Nat.two_pow_pos (p - n.log2))
      rw [← Nat.pow_add, show n.log2 + 1 + (p - n.log2) = p + 1 by omega, Nat.pow_succ] at this
      omega
    obtain ⟨r, hr⟩ : ∃ r, n * 2 ^ (p - n.log2) = 2 ^ p + r := ⟨n * 2 ^ (p - n.log2) - 2 ^ p, by omega⟩
    refine ⟨p - n.log2, ?_⟩
    have hmin : min ((L + n.log2 - p) * 2 ^ p + n * 2 ^ (p - n.log2)) (I * 2 ^ p) = (L + n.log2 - p) * 2 ^ p + (2 ^ p + r) := by
      rw [hr]
      have := Nat.mul_le_mul_right (2 ^ p) (show L + n.log2 - p + 2 ≤ I by omega)
      rw [Nat.add_mul] at this
      omega
    rw [show f.nearest neg n 0 = _ from h0, hmin, read_word h neg (by omega) (by omega), hr]
    congr 1
    omega
theorem signed_is (a : Int) (k K : Nat) (h : k ≤ K) : Ieee.signed (decide (a < 0)) (a.natAbs * 2 ^ k) (-(k : Int) - -(K : Int)).toNat = a * 2 ^ K := by
  have e : (-(k : Int) - -(K : Int)).toNat = K - k := by omega
  unfold Ieee.signed
  rw [e, Nat.shiftLeft_eq, Nat.mul_assoc, ← Nat.pow_add, show k + (K - k) = K by omega]
  by_cases ha : a < 0
  · rw [decide_eq_true ha, if_pos rfl, Int.natCast_mul, Int.natCast_pow, show ((a.natAbs : Nat) : Int) = -a by omega]
    simp [Int.neg_mul]
  · rw [decide_eq_false ha, if_neg (by simp), Int.natCast_mul, Int.natCast_pow, show ((a.natAbs : Nat) : Int) = a by omega]; rfl
theorem pow_posI (K : Nat) : (0 : Int) < 2 ^ K := Int.pow_pos (by omega)
def wd (f : Ieee.Format) (a : Int) : Nat := f.nearest (decide (a < 0)) a.natAbs 0
def bgI (p : Nat) (a : Int) : Prop := a.natAbs < 2 ^ (p + 1)
theorem order_wd (h : Fm f p L I) {a b : Int} (ha : bgI p a) (hb : bgI p b) : f.order (wd f a) (wd f b) = some (compare a b) := by
  obtain ⟨k, hk⟩ := read_nearest h (decide (a < 0)) ha
  obtain ⟨j, hj⟩ := read_nearest h (decide (b < 0)) hb
  unfold Ieee.Format.order wd
  rw [hk, hj]
  simp only [Ieee.Datum.order, Option.some.injEq]
  obtain ⟨K, hK⟩ : ∃ K : Nat, K = max k j := ⟨_, rfl⟩
  have hb0 : min (-(k : Int)) (-(j : Int)) = -(K : Int) := by omega
  rw [hb0, signed_is a k K (by omega), signed_is b j K (by omega)]
  have hp := pow_posI K
  rcases Int.lt_trichotomy a b with q | q | q
  · rw [Int.compare_eq_lt.2 q, Int.compare_eq_lt.2 (Int.mul_lt_mul_of_pos_right q hp)]
  · subst q; simp
  · rw [Int.compare_eq_gt.2 q, Int.compare_eq_gt.2 (Int.mul_lt_mul_of_pos_right q hp)]
theorem toInt_wd (h : Fm f p L I) {a : Int} (ha : bgI p a) : (f.read (wd f a)).toInt .zero = some a := by
  obtain ⟨k, hk⟩ := read_nearest h (decide (a < 0)) ha
  unfold wd
  rw [hk]
  unfold Ieee.Datum.toInt Ieee.Datum.integral
  have e1 : (-(k : Int)).toNat = 0 := by omega
  have e2 : (- -(k : Int)).toNat = k := by omega
  simp only [e1, e2, Nat.shiftLeft_zero, cut_zero, Option.some.injEq]
  unfold Ieee.signed
  by_cases q : a < 0
  · rw [decide_eq_true q, if_pos rfl, Nat.shiftLeft_zero]; omega
  · rw [decide_eq_false q, if_neg (by simp), Nat.shiftLeft_zero]; omega
open Go

def f32I (n : Int) : Prop := n.natAbs < 2 ^ 24
theorem f32_of {n : Int} (h1 : -16777215 ≤ n) (h2 : n ≤ 16777215) : f32I n := by unfold f32I; omega
theorem f32_ord {a b : Int} (ha : f32I a) (hb : f32I b) : FloatKind.f32.format.order (FloatKind.f32.nearest a) (FloatKind.f32.nearest b) = some (compare a b) := order_wd fmS ha hb
theorem f32_int {a : Int} (ha : f32I a) : floatToIntVal .f32 (FloatKind.f32.nearest a) .i64 = some a := by
  unfold floatToIntVal
  have h : (FloatKind.f32.decode (FloatKind.f32.nearest a)).toInt .zero = some a := toInt_wd fmS ha
  rw [h]
  have h1 : IntKind.i64.min ≤ a ∧ a ≤ IntKind.i64.max := by
    unfold f32I at ha
    show (-9223372036854775808 : Int) ≤ a ∧ a ≤ 9223372036854775807
    omega
  show (if IntKind.i64.min ≤ a ∧ a ≤ IntKind.i64.max then some a else none) = some a
  rw [if_pos h1]
theorem signed_neg (a : Int) (k K : Nat) (h : k ≤ K) : Ieee.signed (!(decide (a < 0))) (a.natAbs * 2 ^ k) (-(k : Int) - -(K : Int)).toNat = -(a * 2 ^ K) := by
  have e := signed_is a k K h
  unfold Ieee.signed at e ⊢
  by_cases ha : a < 0
  · rw [decide_eq_true ha, if_pos rfl] at e
    rw [decide_eq_true ha, if_neg (by simp)]; omega
  · rw [decide_eq_false ha, if_neg (by simp)] at e
    rw [decide_eq_false ha, if_pos (by simp)]; omega
theorem sub_wd {f : Ieee.Format} {p L I : Nat} (h : Fm f p L I) {a b : Int} (ha : bgI p a) (hb : bgI p b) (hc : bgI p (a - b)) : f.sub (wd f a) (wd f b) = some (wd f (a - b)) := by
  obtain ⟨k, hk⟩ := read_nearest h (decide (a < 0)) ha
  obtain ⟨j, hj⟩ := read_nearest h (decide (b < 0)) hb
  unfold Ieee.Format.sub wd
  rw [hk, hj]
  simp only [Ieee.Datum.opposite, Ieee.Datum.sum, Option.map_some, Option.some.injEq]
  obtain ⟨K, hK⟩ : ∃ K : Nat, K = max k j := ⟨_, rfl⟩
  have hb0 : min (-(k : Int)) (-(j : Int)) = -(K : Int) := by omega
  rw [hb0, signed_is a k K (by omega), signed_neg b j K (by omega), ← Int.sub_eq_add_neg, ← Int.sub_mul]
  have hp := pow_posI K
  have hna : ((a - b) * 2 ^ K).natAbs = (a - b).natAbs * 2 ^ K := by rw [Int.natAbs_mul, Int.natAbs_pow]; rfl
  have hz : ((a - b) * 2 ^ K = 0) ↔ a - b = 0 := by rw [Int.mul_eq_zero]; constructor <;> intro q <;> omega
  have hneg : ((a - b) * 2 ^ K < 0) ↔ a - b < 0 := by
    constructor
    · intro q
      by_cases q2 : a - b < 0
      · exact q2
      · have := Int.mul_nonneg (show 0 ≤ a - b by omega) (Int.le_of_lt hp); omega
    · intro q; exact Int.mul_neg_of_neg_of_pos q hp
  unfold Ieee.Format.write
  simp only [hna]
  by_cases hs : a - b = 0
  · rw [if_pos (hz.2 hs), hs]
    have : (decide (a < 0) && !decide (b < 0)) = false := by
      by_cases q : a < 0
      · rw [decide_eq_true (show b < 0 by omega)]; simp
      · rw [decide_eq_false q]; rfl
    rw [this]
    simp [nearest_zero]
  · rw [if_neg (fun q => hs (hz.1 q)), nearest_shift h _ K hc]
    congr 1
    exact decide_eq_decide.2 hneg
theorem f32_sub {a b : Int} (ha : f32I a) (hb : f32I b) (hc : f32I (a - b)) : floatBits .sub .f32 (FloatKind.f32.nearest a) (FloatKind.f32.nearest b) = some (FloatKind.f32.nearest (a - b)) := sub_wd fmS ha hb hc
theorem f32_neq {a : Int} (ha : f32I a) : ordB .neq (FloatKind.f32.format.order (FloatKind.f32.nearest a) (FloatKind.f32.nearest a)) = false := by
  rw [f32_ord ha ha]
  have : compare a a = .eq := by simp
  rw [this]; rfl
theorem rd_hi : Ieee.single.read 1266679808 = .number false 8388608 1 := by decide +kernel
theorem rd_lo : Ieee.single.read 3414163456 = .number true 8388608 1 := by decide +kernel
theorem pow_up (k : Nat) : ((8388608 <<< ((1 : Int) - -(k : Int)).toNat : Nat) : Int) = 16777216 * 2 ^ k := by
  have e : ((1 : Int) - -(k : Int)).toNat = k + 1 := by omega
  rw [e, Nat.shiftLeft_eq, Nat.pow_succ, Int.natCast_mul, Int.natCast_mul, Int.natCast_pow]
  show (8388608 : Int) * (2 ^ k * 2) = _
  grind
theorem f32_geq {n : Int} (h : f32I n) : ordB .geq (FloatKind.f32.format.order (FloatKind.f32.nearest n) 1266679808) = false := by
  obtain ⟨k, hk⟩ := read_nearest fmS (decide (n < 0)) h
  show ordB .geq ((Ieee.single.read (wd Ieee.single n)).order (Ieee.single.read 1266679808)) = false
  unfold wd
  rw [hk, rd_hi]
  simp only [Ieee.Datum.order]
  have hb : min (-(k : Int)) 1 = -(k : Int) := by omega
  rw [hb, signed_is n k k (Nat.le_refl _)]
  have e : Ieee.signed false 8388608 ((1 : Int) - -(k : Int)).toNat = 16777216 * 2 ^ k := pow_up k
  rw [e]
  have hp := pow_posI k
  have hlt : n * 2 ^ k < 16777216 * 2 ^ k := Int.mul_lt_mul_of_pos_right (by unfold f32I at h; omega) hp
  rw [Int.compare_eq_lt.2 hlt]; rfl
theorem f32_leq {n : Int} (h : f32I n) : ordB .leq (FloatKind.f32.format.order (FloatKind.f32.nearest n) 3414163456) = false := by
  obtain ⟨k, hk⟩ := read_nearest fmS (decide (n < 0)) h
  show ordB .leq ((Ieee.single.read (wd Ieee.single n)).order (Ieee.single.read 3414163456)) = false
  unfold wd
  rw [hk, rd_lo]
  simp only [Ieee.Datum.order]
  have hb : min (-(k : Int)) 1 = -(k : Int) := by omega
  rw [hb, signed_is n k k (Nat.le_refl _)]
  have e : Ieee.signed true 8388608 ((1 : Int) - -(k : Int)).toNat = -(16777216 * 2 ^ k) := by rw [← pow_up k]; rfl
  rw [e]
  have hp := pow_posI k
  have hlt : (-16777216) * 2 ^ k < n * 2 ^ k := Int.mul_lt_mul_of_pos_right (by unfold f32I at h; omega) hp
  have hgt : -(16777216 * 2 ^ k) < n * 2 ^ k := by rw [← Int.neg_mul]; exact hlt
  rw [Int.compare_eq_gt.2 hgt]; rfl
open Go

variable {f : Ieee.Format} {p L I : Nat}
end Go.Proofs.YtcdccdcbfbakfaaGreatDoor.Am.M
