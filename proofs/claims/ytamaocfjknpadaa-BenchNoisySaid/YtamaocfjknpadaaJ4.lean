/- Contracts over the abstract machine, joined. Conditions: none. -/
import Derived.Test.YtamaocfjknpadaaJ1
set_option linter.unusedVariables false
set_option linter.unusedSimpArgs false
namespace Go.Proofs.Ytamaocfjknpadaa.Am.M
open Go

def KK : Nat := 1100
theorem KK_ge : 1100 ≤ KK := Nat.le_refl _
def QQ : Nat := 2 ^ KK
theorem QQ_pos : 0 < QQ := Nat.two_pow_pos _
variable {f : Ieee.Format} {p L I : Nat}
def Numb (f : Ieee.Format) (b : Nat) (s : Bool) (M : Nat) : Prop := ∃ (m : Nat) (e : Int), f.read b = .number s m e ∧ -(KK : Int) ≤ e ∧ m * 2 ^ (e + KK).toNat = M
def sgI (s : Bool) (M : Nat) : Int := if s then -(M : Int) else M
theorem signed_sg (s : Bool) (m u : Nat) : Ieee.signed s m u = sgI s (m * 2 ^ u) := by unfold Ieee.signed sgI; rw [Nat.shiftLeft_eq]
theorem sg_mul (s : Bool) (M q : Nat) : sgI s (M * q) = sgI s M * (q : Int) := by unfold sgI; cases s <;> simp [Int.natCast_mul, Int.neg_mul]
theorem sg_abs (s : Bool) (M : Nat) : (sgI s M).natAbs = M := by unfold sgI; cases s <;> simp
theorem cmp_mul (a b : Int) {q : Nat} (h : 0 < q) : compare (a * (q : Int)) (b * (q : Int)) = compare a b := by
  have hp : (0 : Int) < q := by omega
  rcases Int.lt_trichotomy a b with h | h | h
  · rw [Int.compare_eq_lt.2 h, Int.compare_eq_lt.2 (Int.mul_lt_mul_of_pos_right h hp)]
  · subst h; simp
  · rw [Int.compare_eq_gt.2 h, Int.compare_eq_gt.2 (Int.mul_lt_mul_of_pos_right h hp)]
theorem order_num {a b : Nat} {s t : Bool} {M N : Nat} (ha : Numb f a s M) (hb : Numb f b t N) : f.order a b = some (compare (sgI s M) (sgI t N)) := by
  obtain ⟨m, i, h1, h2, rfl⟩ := ha
  obtain ⟨n, j, h3, h4, rfl⟩ := hb
  unfold Ieee.Format.order
  rw [h1, h3]
  simp only [Ieee.Datum.order, Option.some.injEq]
  obtain ⟨c, hc⟩ : ∃ c : Nat, c = (min i j + KK).toNat := ⟨_, rfl⟩
  have e1 : (i + KK).toNat = (i - min i j).toNat + c := by omega
  have e2 : (j + KK).toNat = (j - min i j).toNat + c := by omega
  rw [signed_sg, signed_sg, e1, e2, Nat.pow_add, Nat.pow_add, ← Nat.mul_assoc, ← Nat.mul_assoc, sg_mul _ _ (2 ^ c), sg_mul _ _ (2 ^ c), cmp_mul _ _ (Nat.two_pow_pos c)]
theorem sub_num {b : Nat} {s : Bool} {M : Nat} (h : Numb f b s M) : f.sub b b = some 0 := by
  obtain ⟨m, e, h1, -, -⟩ := h
  unfold Ieee.Format.sub
  rw [h1]
  have ht : ∀ u, Ieee.signed s m u + Ieee.signed (!s) m u = 0 := by intro u; unfold Ieee.signed; cases s <;> simp <;> omega
  simp only [Ieee.Datum.opposite, Ieee.Datum.sum, Option.map_some, Option.some.injEq, ht]
  simp [Ieee.Format.write, nearest_zero, Ieee.Format.word]
theorem sub_inf {b : Nat} {s : Bool} (h : f.read b = .infinity s) : f.sub b b = none := by
  unfold Ieee.Format.sub
  rw [h]
  cases s <;> rfl
theorem cutz (neg : Bool) (n d : Nat) : Ieee.Toward.zero.cut neg n d = n / 2 ^ d := by
  unfold Ieee.Toward.cut
  simp only [Nat.one_shiftLeft, Bool.toNat_false, Nat.add_zero]
  by_cases h : d ≤ n.log2 + 2
  · rw [Nat.min_eq_left h]
  · rw [Nat.min_eq_right (by omega)]
    have h1 : n < 2 ^ (n.log2 + 2) := Nat.lt_of_lt_of_le Nat.lt_log2_self (Nat.pow_le_pow_right (by omega) (by omega))
    rw [Nat.div_eq_of_lt h1, Nat.div_eq_of_lt (Nat.lt_of_lt_of_le h1 (Nat.pow_le_pow_right (by omega) (by omega)))]
theorem toInt_num {b : Nat} {s : Bool} {M : Nat} (h : Numb f b s M) : (f.read b).toInt .zero = some (sgI s (M / QQ)) := by
  obtain ⟨m, e, h1, h2, rfl⟩ := h
  rw [h1]
  unfold Ieee.Datum.toInt Ieee.Datum.integral
  simp only [cutz]
  rw [signed_sg, Nat.pow_zero, Nat.mul_one, Nat.shiftLeft_eq]
  congr 2
  unfold QQ
  by_cases he : 0 ≤ e
  · have e1 : (-e).toNat = 0 := by omega
    have e2 : (e + KK).toNat = e.toNat + KK := by omega
    rw [e1, e2, Nat.pow_zero, Nat.div_one, Nat.pow_add, ← Nat.mul_assoc, Nat.mul_div_cancel _ (Nat.two_pow_pos _)]
  · have e1 : e.toNat = 0 := by omega
    obtain ⟨u, hu⟩ : ∃ u : Nat, u = (e + KK).toNat := ⟨_, rfl⟩
    obtain ⟨v, hv⟩ : ∃ v : Nat, v = (-e).toNat := ⟨_, rfl⟩
    have e2 : KK = u + v := by omega
    rw [e1, Nat.pow_zero, Nat.mul_one, ← hu, ← hv, e2, Nat.pow_add, Nat.mul_comm m, Nat.mul_div_mul_left _ _ (Nat.two_pow_pos _)]
theorem nearest_any (h : Fm f p L I) (neg : Bool) {n : Nat} (j : Nat) (e : Int) (hn : 0 < n) (hlt : n < 2 ^ (p + 1)) (he : (p : Int) ≤ e + j + n.log2 + L) :
    f.nearest neg (n * 2 ^ j) e = f.word neg (min ((e + j + n.log2 + L - p).toNat * 2 ^ p + n * 2 ^ (p - n.log2)) (I * 2 ^ p)) := by
  have hl := log2_mul (d := j) (show n ≠ 0 by omega)
  have hle := log_le hn hlt
  have hK := Nat.two_pow_pos j
  unfold Ieee.Format.nearest
  rw [if_neg (Nat.mul_ne_zero (by omega) (by omega)), hl, h.fb, h.lp, h.bn, h.inf]
  simp only
  have hlast : max (e + ((n.log2 + j : Nat) : Int) - (p : Int)) (-(L : Int)) = e + j + n.log2 - p := by omega
  rw [hlast]
  congr 2
  have e1 : (e + j + (n.log2 : Int) - p - -(L : Int)).toNat = (e + j + n.log2 + L - p).toNat := by omega
  rw [e1]
  congr 1
  by_cases hk : j ≤ p - n.log2
  · have e2 : (e - (e + j + (n.log2 : Int) - p)).toNat = p - n.log2 - j := by omega
    have e3 : (e + j + (n.log2 : Int) - p - e).toNat = 0 := by omega
    rw [e2, e3, Nat.shiftLeft_eq, Nat.mul_assoc, ← Nat.pow_add, show j + (p - n.log2 - j) = p - n.log2 by omega]
    have := cut_even (neg := neg) (c := n * 2 ^ (p - n.log2)) (d := 0) (Nat.mul_ne_zero (by omega) (by have := Nat.two_pow_pos (p - n.log2); omega))
    rwa [Nat.pow_zero, Nat.mul_one] at this
  · have e2 : (e - (e + j + (n.log2 : Int) - p)).toNat = 0 := by omega
    have e3 : (e + j + (n.log2 : Int) - p - e).toNat = j - (p - n.log2) := by omega
    rw [e2, e3, Nat.shiftLeft_eq, Nat.pow_zero, Nat.mul_one]
    have e4 : n * 2 ^ j = n * 2 ^ (p - n.log2) * 2 ^ (j - (p - n.log2)) := by rw [Nat.mul_assoc, ← Nat.pow_add, show p - n.log2 + (j - (p - n.log2)) = j by omega]
    rw [e4]
    exact cut_even (Nat.mul_ne_zero (by omega) (by have := Nat.two_pow_pos (p - n.log2); omega))
theorem num_near (h : Fm f p L I) (neg : Bool) {n : Nat} (j : Nat) (e : Int) (hlt : n < 2 ^ (p + 1)) (hL : L ≤ KK) (he0 : -(KK : Int) ≤ e) (he : 0 < n → (p : Int) ≤ e + j + n.log2 + L) (he2 : 0 < n → e + j + n.log2 + L + 2 ≤ I + p) :
    Numb f (f.nearest neg (n * 2 ^ j) e) neg (n * 2 ^ j * 2 ^ (e + KK).toNat) := by
  by_cases hn : n = 0
  · subst hn
    rw [Nat.zero_mul, nearest_zero]
    exact ⟨0, _, read_zero h neg, by omega, by rw [Nat.zero_mul, Nat.zero_mul]⟩
  · have hn0 : 0 < n := by omega
    have hle := log_le hn0 hlt
    have he' := he hn0
    have he2' := he2 hn0
    have hli := h.li
    have hp := Nat.two_pow_pos p
    rw [nearest_any h neg j e hn0 hlt he']
    have g1 : 2 ^ p ≤ n * 2 ^ (p - n.log2) := by
      have := Nat.mul_le_mul_right (2 ^ (p - n.log2)) (Nat.log2_self_le hn)
      rwa [← Nat.pow_add, show n.log2 + (p - n.log2) = p by omega] at this
    have g2 : n * 2 ^ (p - n.log2) < 2 ^ p + 2 ^ p := by
      have := Nat.mul_lt_mul_of_pos_right (Nat.lt_log2_self (n := n)) (Nat.two_pow_pos (p - n.log2))
      rw [← Nat.pow_add, show n.log2 + 1 + (p - n.log2) = p + 1 by omega, Nat.pow_succ] at this
      omega
    obtain ⟨r, hr⟩ : ∃ r, n * 2 ^ (p - n.log2) = 2 ^ p + r := ⟨n * 2 ^ (p - n.log2) - 2 ^ p, by omega⟩
    obtain ⟨E, hE⟩ : ∃ E : Nat, E = (e + j + n.log2 + L - p).toNat := ⟨_, rfl⟩
    have hmin : min (E * 2 ^ p + n * 2 ^ (p - n.log2)) (I * 2 ^ p) = E * 2 ^ p + (2 ^ p + r) := by
      rw [hr]
      have := Nat.mul_le_mul_right (2 ^ p) (show E + 2 ≤ I by omega)
      rw [Nat.add_mul] at this
      omega
    rw [← hE, hmin]
    refine ⟨2 ^ p + r, (E : Int) - L, read_word h neg (by omega) (by omega), by omega, ?_⟩
    rw [← hr, Nat.mul_assoc, Nat.mul_assoc, ← Nat.pow_add, ← Nat.pow_add]
    congr 2
    omega
theorem read_num (h : Fm f p L I) {b : Nat} {s : Bool} {m : Nat} {e : Int} (hr : f.read b = .number s m e) : m < 2 ^ (p + 1) ∧ -(L : Int) ≤ e ∧ e + L + 2 ≤ I := by
  have hp := Nat.two_pow_pos p
  have hli := h.li
  unfold Ieee.Format.read at hr
  simp only [h.bn, h.inf, h.lp] at hr
  obtain ⟨r, hr0⟩ : ∃ r, r = b % f.signWeight := ⟨_, rfl⟩
  rw [← hr0] at hr
  rw [Nat.pow_succ]
  by_cases h1 : r < 2 ^ p
  · rw [if_pos h1] at hr
    injection hr with _ e1 e2
    omega
  · rw [if_neg h1] at hr
    by_cases h2 : r < I * 2 ^ p
    · rw [if_pos h2] at hr
      injection hr with _ e1 e2
      have h3 : r / 2 ^ p < I := Nat.div_lt_of_lt_mul (by rw [Nat.mul_comm]; exact h2)
      have h4 : 1 ≤ r / 2 ^ p := (Nat.one_le_div_iff hp).2 (by omega)
      have h5 := Nat.mod_lt r hp
      omega
    · rw [if_neg h2] at hr
      by_cases h3 : r = I * 2 ^ p
      · rw [if_pos h3] at hr; cases hr
      · rw [if_neg h3] at hr; cases hr
theorem num_of (h : Fm f p L I) (hL : L ≤ KK) {b : Nat} {s : Bool} {m : Nat} {e : Int} (hr : f.read b = .number s m e) : Numb f b s (m * 2 ^ (e + KK).toNat) :=
  ⟨m, e, hr, by have := (read_num h hr).2.1; omega, rfl⟩
theorem num_wd (h : Fm f p L I) (hL : L ≤ KK) {a : Int} (ha : a.natAbs < 2 ^ (p + 1)) : Numb f (wd f a) (decide (a < 0)) (a.natAbs * QQ) := by
  have hpl := h.pl
  have hli := h.li
  have := num_near h (decide (a < 0)) 0 0 ha hL (by omega) (fun _ => by omega) (fun h0 => by have := log_le h0 ha; omega)
  rw [Nat.pow_zero, Nat.mul_one, show ((0 : Int) + KK).toNat = KK by omega] at this
  exact this
theorem sg_wd (a : Int) (Q : Nat) : sgI (decide (a < 0)) (a.natAbs * Q) = a * (Q : Int) := by
  rw [sg_mul]
  congr 1
  unfold sgI
  by_cases ha : a < 0
  · rw [decide_eq_true ha, if_pos rfl]; omega
  · rw [decide_eq_false ha, if_neg (by simp)]; omega
theorem back_num (h : Fm f p L I) (hL : L ≤ KK) {b : Nat} {s : Bool} {m : Nat} {e : Int} {M : Nat} (hr : f.read b = .number s m e) (hM : m * 2 ^ (e + KK).toNat = M) :
    Numb f (wd f (sgI s (M / QQ))) (decide (sgI s (M / QQ) < 0)) (M / QQ * QQ) := by
  obtain ⟨h1, h2, h3⟩ := read_num h hr
  have hpl := h.pl
  have hli := h.li
  by_cases he : 0 ≤ e
  · have e2 : (e + KK).toNat = e.toNat + KK := by omega
    have hq : M / QQ = m * 2 ^ e.toNat := by
      rw [← hM, e2, Nat.pow_add, ← Nat.mul_assoc]
      exact Nat.mul_div_cancel _ QQ_pos
    have := num_near h (decide (sgI s (M / QQ) < 0)) e.toNat 0 h1 hL (by omega) (fun _ => by omega) (fun h0 => by have := log_le h0 h1; omega)
    rw [show ((0 : Int) + KK).toNat = KK by omega, ← hq] at this
    unfold wd
    rw [sg_abs]
    exact this
  · have hlt : M / QQ < 2 ^ (p + 1) := by
      refine Nat.lt_of_le_of_lt ?_ h1
      refine Nat.div_le_of_le_mul ?_
      rw [← hM, Nat.mul_comm QQ]
      exact Nat.mul_le_mul_left _ (Nat.pow_le_pow_right (by omega) (by omega))
    have := num_wd h hL (a := sgI s (M / QQ)) (by rw [sg_abs]; exact hlt)
    rwa [sg_abs] at this
theorem sg_same (s : Bool) (N Q : Nat) : sgI (decide (sgI s N < 0)) (N * Q) = sgI s (N * Q) := by
  have := sg_wd (sgI s N) Q
  rw [sg_abs] at this
  rw [this, ← sg_mul]
theorem sg_eq {s : Bool} {M N : Nat} : sgI s M = sgI s N ↔ M = N := by unfold sgI; cases s <;> simp <;> omega
theorem back_ord (h : Fm f p L I) (hL : L ≤ KK) {b : Nat} {s : Bool} {m : Nat} {e : Int} {M : Nat} (hr : f.read b = .number s m e) (hM : m * 2 ^ (e + KK).toNat = M) :
    (f.order (wd f (sgI s (M / QQ))) b == some .eq) = decide (M % QQ = 0) := by
  have hb := num_of h hL hr
  rw [hM] at hb
  rw [order_num (back_num h hL hr hM) hb, sg_same]
  have hd := Nat.div_add_mod M QQ
  rw [Nat.mul_comm] at hd
  by_cases h0 : M % QQ = 0
  · have e1 : M / QQ * QQ = M := by omega
    rw [e1, decide_eq_true h0]; simp
  · rw [decide_eq_false h0]
    have : sgI s (M / QQ * QQ) ≠ sgI s M := fun q => h0 (by have := sg_eq.1 q; omega)
    rcases Int.lt_or_gt_of_ne this with q | q
    · rw [Int.compare_eq_lt.2 q]; rfl
    · rw [Int.compare_eq_gt.2 q]; rfl
theorem big_whole (h : Fm f p L I) {b : Nat} {s : Bool} {m : Nat} {e : Int} {M : Nat} (hr : f.read b = .number s m e) (hM : m * 2 ^ (e + KK).toNat = M) (hB : 2 ^ (p + 1) * QQ ≤ M) : M % QQ = 0 := by
  obtain ⟨h1, h2, h3⟩ := read_num h hr
  by_cases he : 0 ≤ e
  · have e2 : (e + KK).toNat = e.toNat + KK := by omega
    rw [← hM, e2, Nat.pow_add, ← Nat.mul_assoc]
    exact Nat.mul_mod_left _ _
  · exfalso
    have h4 : m * 2 ^ (e + KK).toNat ≤ m * QQ := Nat.mul_le_mul_left _ (Nat.pow_le_pow_right (by omega) (by omega))
    have h5 : m * QQ < 2 ^ (p + 1) * QQ := Nat.mul_lt_mul_of_pos_right h1 QQ_pos
    omega
theorem LS : 149 ≤ KK := by have := KK_ge; omega
theorem LD : 1074 ≤ KK := by have := KK_ge; omega
theorem dbl_inf (s : Bool) : Ieee.double.read (Ieee.double.write (.infinity s)) = .infinity s := by cases s <;> decide +kernel
theorem wide_num {b : Nat} {s : Bool} {m : Nat} {e : Int} (hr : Ieee.single.read b = .number s m e) : ∃ b', floatToFloatBits .f32 b .f64 = some b' ∧ ∃ m' e', Ieee.double.read b' = .number s m' e' ∧ m' * 2 ^ (e' + KK).toNat = m * 2 ^ (e + KK).toNat := by
  obtain ⟨h1, h2, h3⟩ := read_num fmS hr
  have hLD := LD
  have hx := num_near fmD s 0 e (n := m) (Nat.lt_trans h1 (by decide)) hLD (by omega) (fun _ => by omega) (fun h0 => by have := log_le h0 h1; omega)
  rw [Nat.pow_zero, Nat.mul_one] at hx
  obtain ⟨m', e', h4, h5, h6⟩ := hx
  refine ⟨Ieee.double.nearest s m e, ?_, m', e', h4, h6⟩
  unfold floatToFloatBits
  have hd : FloatKind.f32.decode b = .number s m e := hr
  have he : FloatKind.f64.encode (.number s m e) = Ieee.double.nearest s m e := rfl
  have hi : (FloatKind.f64.decode (Ieee.double.nearest s m e)).isInfinity = false := by
    show (Ieee.double.read (Ieee.double.nearest s m e)).isInfinity = false
    rw [h4]; rfl
  rw [if_neg (by decide), hd]
  simp only [he, hi]
  rfl
theorem wide_inf {b : Nat} {s : Bool} (hr : Ieee.single.read b = .infinity s) : ∃ b', floatToFloatBits .f32 b .f64 = some b' ∧ Ieee.double.read b' = .infinity s := by
  refine ⟨Ieee.double.write (.infinity s), ?_, dbl_inf s⟩
  unfold floatToFloatBits
  have hd : FloatKind.f32.decode b = .infinity s := hr
  rw [if_neg (by decide), hd]
  rfl
def sEM (M : Nat) : Int := if 16777216 * QQ ≤ M then 2 else if M % QQ ≠ 0 then 25 else if 2047 * QQ < M then 2 else 0
def sE (b : Nat) : Int :=
  match Ieee.single.read b with
  | .number _ m e => sEM (m * 2 ^ (e + KK).toNat)
  | _ => 25
theorem num_hi : Numb Ieee.single 1266679808 false (16777216 * QQ) := ⟨8388608, 1, rd_hi, by omega, by
  rw [show ((1 : Int) + KK).toNat = KK + 1 by omega, Nat.pow_succ]; have e : 2 ^ KK = QQ := rfl
  rw [e]; generalize QQ = q; omega⟩
theorem num_lo : Numb Ieee.single 3414163456 true (16777216 * QQ) := ⟨8388608, 1, rd_lo, by omega, by
  rw [show ((1 : Int) + KK).toNat = KK + 1 by omega, Nat.pow_succ]; have e : 2 ^ KK = QQ := rfl
  rw [e]; generalize QQ = q; omega⟩
theorem cmp_some (a b : Int) : (some (compare a b) == some .eq) = decide (a = b) ∧ (some (compare a b) == some .lt) = decide (a < b) ∧ (some (compare a b) == some .gt) = decide (b < a) := by
  rcases Int.lt_trichotomy a b with h | h | h
  · rw [Int.compare_eq_lt.2 h, decide_eq_false (by omega), decide_eq_true h, decide_eq_false (by omega)]; decide
  · rw [Int.compare_eq_eq.2 h, decide_eq_true h, decide_eq_false (by omega), decide_eq_false (by omega)]; decide
  · rw [Int.compare_eq_gt.2 h, decide_eq_false (by omega), decide_eq_false (by omega), decide_eq_true h]; decide
theorem ob_geq {a b : Nat} {s t : Bool} {M N : Nat} (ha : Numb f a s M) (hb : Numb f b t N) : ordB .geq (f.order a b) = decide (sgI t N ≤ sgI s M) := by
  rw [order_num ha hb]
  obtain ⟨h1, h2, h3⟩ := cmp_some (sgI s M) (sgI t N)
  unfold ordB
  simp only [h1, h3]
  rw [← Bool.decide_or]; exact decide_eq_decide.2 (by omega)
theorem ob_leq {a b : Nat} {s t : Bool} {M N : Nat} (ha : Numb f a s M) (hb : Numb f b t N) : ordB .leq (f.order a b) = decide (sgI s M ≤ sgI t N) := by
  rw [order_num ha hb]
  obtain ⟨h1, h2, h3⟩ := cmp_some (sgI s M) (sgI t N)
  unfold ordB
  simp only [h1, h2]
  rw [← Bool.decide_or]; exact decide_eq_decide.2 (by omega)
theorem ob_lss {a b : Nat} {s t : Bool} {M N : Nat} (ha : Numb f a s M) (hb : Numb f b t N) : ordB .lss (f.order a b) = decide (sgI s M < sgI t N) := by
  rw [order_num ha hb]
  exact (cmp_some _ _).2.1
theorem ob_gtr {a b : Nat} {s t : Bool} {M N : Nat} (ha : Numb f a s M) (hb : Numb f b t N) : ordB .gtr (f.order a b) = decide (sgI t N < sgI s M) := by
  rw [order_num ha hb]
  exact (cmp_some _ _).2.2
theorem ob_self {a : Nat} {s : Bool} {M : Nat} (ha : Numb f a s M) : ordB .neq (f.order a a) = false := by
  rw [order_num ha ha]
  have := (cmp_some (sgI s M) (sgI s M)).1
  unfold ordB
  rw [bne, this]; simp
end Go.Proofs.Ytamaocfjknpadaa.Am.M
