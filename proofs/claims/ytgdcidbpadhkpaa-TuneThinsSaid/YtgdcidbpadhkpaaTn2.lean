import Derived.Test.YtgdcidbpadhkpaaRows
import Derived.WalkKit
import Derived.WalkSpells
import Derived.Lib.Hide
import Derived.Deep.LoopGhost
import Derived.Test.YtgdcidbpadhkpaaTn1

set_option linter.unusedVariables false
set_option linter.unusedSimpArgs false
namespace Go.Proofs.Ytgdcidbpadhkpaa
open Go.RowKit

theorem tdiv_floor (n d : Int) (hd : 1 ≤ d) : (n.tmod d < 0 → n.tdiv d - 1 = n / d) ∧ (¬ n.tmod d < 0 → n.tdiv d = n / d) := by
  have e : n.tmod d = n - d * n.tdiv d := by have := Int.mul_tdiv_add_tmod n d; omega
  have h1 : n.tmod d < d := Int.tmod_lt_of_pos n (by omega)
  have h2 : -d < n.tmod d := by
    have := Int.tmod_lt_of_pos (-n) (show 0 < d by omega)
    rw [Int.neg_tmod] at this; omega
  constructor
  · intro h
    have : n / d = n.tdiv d - 1 := by
      refine (Int.ediv_emod_unique (a := n) (b := d) (r := n.tmod d + d) (q := n.tdiv d - 1) (by omega)).2 ⟨?_, by omega, by omega⟩ |>.1
      rw [Int.mul_sub]; omega
    omega
  · intro h
    have : n / d = n.tdiv d := by
      refine (Int.ediv_emod_unique (a := n) (b := d) (r := n.tmod d) (q := n.tdiv d) (by omega)).2 ⟨?_, by omega, by omega⟩ |>.1
      omega
    omega

def I64 (n : Int) : Prop := -9223372036854775807 ≤ n ∧ n ≤ 9223372036854775807
theorem div_bound (n d : Int) (hd : 1 ≤ d) (h1 : -9223372036854775807 ≤ n) (h2 : n ≤ 9223372036854775807) : -9223372036854775807 ≤ n / d ∧ n / d ≤ 9223372036854775807 := by
  constructor
  · exact (Int.le_ediv_iff_mul_le (by omega)).2 (by have : (-9223372036854775807) * d ≤ -9223372036854775807 := by omega
                                                    omega)
  · by_cases h : 0 ≤ n
    · have := Int.ediv_le_self d h; omega
    · have : n / d < 0 := Int.ediv_neg_of_neg_of_pos (by omega) (by omega); omega
theorem tdiv_bound (n d : Int) (hd : 1 ≤ d) (h1 : -9223372036854775807 ≤ n) (h2 : n ≤ 9223372036854775807) : -9223372036854775807 ≤ n.tdiv d ∧ n.tdiv d ≤ 9223372036854775807 := by
  have h := tdiv_floor n d hd
  have hb := div_bound n d hd h1 h2
  by_cases hm : n.tmod d < 0
  · have := h.1 hm
    have hn : n < 0 := by
      by_cases h : 0 ≤ n
      · have := Int.tmod_nonneg d h; omega
      · omega
    have hz : n.tdiv d ≤ 0 := by
      have := Int.tdiv_nonneg (a := -n) (b := d) (by omega) (by omega)
      rw [Int.neg_tdiv] at this; omega
    omega
  · have := h.2 hm; omega

set_option maxHeartbeats 400000 in
theorem floor_c (n d : Int) (w : World) (h0 : 1 ≤ d) (h1 : -9223372036854775807 ≤ n) (h2 : n ≤ 9223372036854775807) :
    Calls Try.prog 94 #[.int .i64 n, .int .i64 d] w fun e w' => e = .returned (.int .i64 (n / d)) ∧ w = w' := by
  have hf := tdiv_floor n d h0
  have HF := Lib.hid hf; clear hf
  have hb := tdiv_bound n d h0 h1 h2
  obtain ⟨b1, b2⟩ := hb
  have hb' := div_bound n d h0 h1 h2
  have HB := Lib.hid hb'; clear hb'
  by_cases hm : n.tmod d < 0
  · have e1 := HF.out.1 hm
    have E1 := Lib.hid e1
    have e2 : -9223372036854775807 ≤ n.tdiv d - 1 := by have := HB.out; omega
    clear e1
    go_enter Try.func94, Try.ntmps94
    go_wp2
    go_ret
    exact ⟨by rw [← E1.out]; rfl, rfl⟩
  · have e1 := HF.out.2 hm
    have E1 := Lib.hid e1
    clear e1
    go_enter Try.func94, Try.ntmps94
    go_wp2
    go_ret
    exact ⟨by rw [← E1.out]; rfl, rfl⟩
def ceD (n d : Int) : Int := -((-n) / d)
set_option maxHeartbeats 400000 in
theorem ceil_c (n d : Int) (w : World) (h0 : 1 ≤ d) (h1 : -9223372036854775807 ≤ n) (h2 : n ≤ 9223372036854775807) :
    Calls Try.prog 95 #[.int .i64 n, .int .i64 d] w fun e w' => e = .returned (.int .i64 (ceD n d)) ∧ w = w' := by
  obtain ⟨b1, b2⟩ := div_bound (-n) d h0 (by omega) (by omega)
  go_enter Try.func95, Try.ntmps95
  go_wp2_with (first | (go_at_call 94; refine (floor_c _ _ _ h0 (by omega) (by omega)).mono ?_; rintro e w' ⟨rfl, rfl⟩))
  go_ret
  exact ⟨rfl, rfl⟩
theorem ret_int {k : IntKind} {a b : Int} (h : a = b) : Ending.returned (.int k a) = .returned (.int k b) := by rw [h]
theorem size_c (n : Int) (w : World) (h1 : -9223372036854775807 ≤ n) (h2 : n ≤ 9223372036854775807) :
    Calls Try.prog 99 #[.int .i64 n] w fun e w' => e = .returned (.int .i64 (n.natAbs : Int)) ∧ w = w' := by
  go_enter Try.func99, Try.ntmps99
  go_wp2
  · go_ret
    exact ⟨ret_int (a := -n) (by omega), rfl⟩
  · go_ret
    exact ⟨ret_int (a := n) (by omega), rfl⟩

def enc (s : Int × Int) : Int × Int := (s.1 / s.2, ceD s.1 s.2)
set_option maxRecDepth 100000 in
set_option maxHeartbeats 1000000 in
theorem enclosed_c (n d : Int) (w : World) (h0 : 1 ≤ d) (h1 : -9223372036854775807 ≤ n) (h2 : n ≤ 9223372036854775807) :
    Calls Try.prog 88 #[.agg #[.int .i64 n, .int .i64 d]] w fun e w' => e = .returned (.agg #[.int .i64 (enc (n, d)).1, .int .i64 (enc (n, d)).2]) ∧ Ext w w' := by
  go_enter Try.func88, Try.ntmps88
  go_wp2
  generalize hW : (w.alloc (Obj.cells #[Value.int IntKind.i64 n, Value.int IntKind.i64 d] 130)).alloc (Obj.cells #[Value.int IntKind.i64 0, Value.int IntKind.i64 0] 52) = W
  have e1 : W.cell? ⟨w.heap.size, 0, none⟩ = some (.int .i64 n) := by subst hW; simp
  have e2 : W.cell? ⟨w.heap.size, 1, none⟩ = some (.int .i64 d) := by subst hW; simp
  have HW := Lib.hid hW; clear hW
  have e3 : W.cell? ⟨w.heap.size + 1, 0, none⟩ = some (.int .i64 0) := by rw [← HW.out]; simp
  have e4 : W.cell? ⟨w.heap.size + 1, 1, none⟩ = some (.int .i64 0) := by rw [← HW.out]; simp
  have z1 : w.heap.size + 1 < W.heap.size := by rw [← HW.out]; simp
  have f3 : W.frozen? ⟨w.heap.size + 1, 0, none⟩ = false := by rw [← HW.out]; simp
  have f4 : W.frozen? ⟨w.heap.size + 1, 1, none⟩ = false := by rw [← HW.out]; simp
  refine wp_region_Tt (R := Ext) 11 (fun w' => Ext (W) w') [(0, 0), (1, 0), (2, 0), (3, 0), (4, 0), (5, 0), (6, 0), (7, 0), (8, 0), (9, 0), (10, 0)] (by kernel_rfl) (by kernel_rfl) (fun _ _ h k => k.trans h) ((Ext.refl _).drew) ?_
  iterate 11
    first
      | (apply wpT_no
         focus (simp only [List.getElem?_toArray, List.getElem?_cons_zero, List.getElem?_cons_succ]; rfl)
         focus rfl
         focus (simp only [Act.put, List.setIfInBounds_toArray, List.set_cons_zero, List.set_cons_succ]; rfl))
      | (apply wpT_ex
         focus (simp only [List.getElem?_toArray, List.getElem?_cons_zero, List.getElem?_cons_succ]; rfl)
         focus rfl
         focus
           intro w1 hC Ψ hΨ
           have d1 := hC.cell e1
           have d2 := hC.cell e2
           go_simp; (try (go_bits; (try go_simp)))
           first
             | exact hΨ _ (Ext.refl _)
             | (go_at_call 94; refine (floor_c _ _ _ (by assumption) (by assumption) (by assumption)).mono ?_; rintro e w2 ⟨rfl, rfl⟩; exact ⟨_, rfl, hΨ _ (Ext.refl _)⟩)
             | (go_at_call 95; refine (ceil_c _ _ _ (by assumption) (by assumption) (by assumption)).mono ?_; rintro e w2 ⟨rfl, rfl⟩; exact ⟨_, rfl, hΨ _ (Ext.refl _)⟩)
         focus (simp only [Act.put, List.setIfInBounds_toArray, List.set_cons_zero, List.set_cons_succ]; rfl))
  refine wpT_nil ?_
  intro w1 hC
  simp only [List.drop_succ_cons, List.drop_zero]
  have c3 := hC.cell e3
  have c4 := hC.cell e4
  have g3 := hC.fz z1 f3
  have g4 := hC.fz z1 f4
  have HC := Lib.hid hC; clear hC e1 e2 e3 e4 f3 f4
  go_wp2
  refine bodyPost_ret (v := .agg #[.int .i64 (enc (n, d)).1, .int .i64 (enc (n, d)).2]) (by simp [results, Try.results88, go_sem, c3, c4, enc]) rfl ⟨rfl, ?_⟩
  have hE0 : Ext w W := by rw [← HW.out]; exact ((Ext.refl w).alloc _).alloc _
  refine Ext.set (Ext.set (hE0.trans HC.out) ?_ _) ?_ _ <;> (first | omega | (simp; done) | (simp; omega))

set_option maxHeartbeats 1000000 in
theorem over_c (n d m : Int) (w : World) (h1 : -9223372036854775807 ≤ m * d) (h2 : m * d ≤ 9223372036854775807) :
    Calls Try.prog 89 #[.agg #[.int .i64 n, .int .i64 d], .int .i64 m] w fun e w' => e = .returned (.agg #[.int .i64 (m * d), .int .i64 n]) ∧ Ext w w' := by
  go_enter Try.func89, Try.ntmps89
  go_wp2
  refine bodyPost_ret (v := .agg #[.int .i64 (m * d), .int .i64 n]) (by simp [results, Try.results89, go_sem]) rfl ⟨rfl, ?_⟩
  exact ((Ext.refl w).alloc _).alloc _

def btw (a b : Int × Int) (d : Int) : Int × Int := if a = b then (a.2, 1) else (a.2 * (b.1 - a.1) + (b.2 - a.2) * (d - a.1), b.1 - a.1)
def RowOk (x : Int × Int) : Prop := 0 ≤ x.1 ∧ x.1 ≤ 100000 ∧ 1 ≤ x.2 ∧ x.2 ≤ 1000000
theorem mul_le_of {a b A B : Int} (h1 : -A ≤ a) (h2 : a ≤ A) (h3 : -B ≤ b) (h4 : b ≤ B) : -(A * B) ≤ a * b ∧ a * b ≤ A * B := by
  have hA : 0 ≤ A := by omega
  have hB : 0 ≤ B := by omega
  have k1 : a.natAbs ≤ A.natAbs := by omega
  have k2 : b.natAbs ≤ B.natAbs := by omega
  have k3 := Nat.mul_le_mul k1 k2
  rw [← Int.natAbs_mul, ← Int.natAbs_mul] at k3
  have : 0 ≤ A * B := Int.mul_nonneg hA hB
  omega
theorem btw_b (a b : Int × Int) (d : Int) (ha : RowOk a) (hb : RowOk b) (hd : 0 ≤ d ∧ d ≤ 100000) :
    (-100000000000 ≤ a.2 * (b.1 - a.1) ∧ a.2 * (b.1 - a.1) ≤ 100000000000) ∧ (-100000000000 ≤ (b.2 - a.2) * (d - a.1) ∧ (b.2 - a.2) * (d - a.1) ≤ 100000000000) := by
  obtain ⟨a1, a2, a3, a4⟩ := ha
  obtain ⟨b1, b2, b3, b4⟩ := hb
  have := mul_le_of (a := a.2) (b := b.1 - a.1) (A := 1000000) (B := 100000) (by omega) (by omega) (by omega) (by omega)
  have := mul_le_of (a := b.2 - a.2) (b := d - a.1) (A := 1000000) (B := 100000) (by omega) (by omega) (by omega) (by omega)
  omega

set_option maxRecDepth 100000 in
set_option maxHeartbeats 1000000 in
theorem between_c (a b : Int × Int) (d : Int) (w : World) (ha : RowOk a) (hb : RowOk b) (h0 : 0 ≤ d) (h1 : d ≤ 100000) (hab : a = b ∨ a.1 < b.1) :
    Calls Try.prog 116 #[.agg #[.int .i64 a.1, .int .i64 a.2], .agg #[.int .i64 b.1, .int .i64 b.2], .int .i64 d] w fun e w' => e = .returned (.agg #[.int .i64 (btw a b d).1, .int .i64 (btw a b d).2]) ∧ Ext w w' := by
  have hm := btw_b a b d ha hb ⟨h0, h1⟩
  obtain ⟨⟨m1, m2⟩, m3, m4⟩ := hm
  obtain ⟨a1, a2, a3, a4⟩ := ha
  obtain ⟨b1, b2, b3, b4⟩ := hb
  rcases hab with rfl | hlt
  · clear m1 m2 m3 m4
    have hz : btw a a d = (a.2, 1) := by simp [btw]
    have HZ := Lib.hid hz; clear hz
    go_enter Try.func116, Try.ntmps116
    go_wp2
    rw [HZ.out]
    refine bodyPost_ret (v := .agg #[.int .i64 a.2, .int .i64 1]) (by simp [results, Try.results116, go_sem]) rfl ⟨rfl, ?_⟩
    exact (((Ext.refl w).alloc _).alloc _).alloc _
  · have hne : a ≠ b := fun e => by subst e; omega
    have hz : btw a b d = (a.2 * (b.1 - a.1) + (b.2 - a.2) * (d - a.1), b.1 - a.1) := by simp [btw, hne]
    have HZ := Lib.hid hz; clear hz
    have hb1 : (a.1 == b.1) = false := by simp; omega
    clear hne
    go_enter Try.func116, Try.ntmps116
    go_wp2
    rw [HZ.out]
    refine bodyPost_ret (v := .agg #[.int .i64 (a.2 * (b.1 - a.1) + (b.2 - a.2) * (d - a.1)), .int .i64 (b.1 - a.1)]) (by simp [results, Try.results116, go_sem]) rfl ⟨rfl, ?_⟩
    exact (((Ext.refl w).alloc _).alloc _).alloc _

set_option maxHeartbeats 1000000 in
theorem geq_c (x : Int × Int) (g : Nat) (d : Int) (w : World) (hg : w.cell? ⟨g, 0, none⟩ = some (.int .i64 d)) :
    Calls Try.prog 123 #[.agg #[.int .i64 x.1, .int .i64 x.2], .pointer (some ⟨g, 0, none⟩)] w fun e w' => e = .returned (.bool (decide (d ≤ x.1))) ∧ Ext w w' := by
  have hl := cell_lt hg
  simp only at hl
  go_enter Try.func123, Try.ntmps123
  go_wp2
  go_ret
  exact ⟨rfl, (Ext.refl w).alloc _⟩

def findGe (d : Int) : Nat → List (Int × Int) → Option Nat
  | _, [] => none
  | k, x :: xs => if d ≤ x.1 then some k else findGe d (k + 1) xs
def optI : Option Nat → Int
  | none => -1
  | some k => k

set_option maxHeartbeats 1000000 in
theorem indexRow_c (l : List (Int × Int)) (A : Option Addr) (c : Nat) (g : Nat) (d : Int) (w : World) (h : RowsS w A l) (hl : l.length ≤ 1000000) (hg : w.cell? ⟨g, 0, none⟩ = some (.int .i64 d)) :
    Calls Try.prog 122 #[.slice A l.length c, .func (.func 123) #[] #[.pointer (some ⟨g, 0, none⟩)]] w fun e w' => e = .returned (.int .i64 (optI (findGe d 0 l))) ∧ Ext w w' := by
  have HH := Lib.hid h; clear h
  have HG := Lib.hid hg; clear hg
  go_enter Try.func122, Try.ntmps122
  go_wp2
  go_loopw [5, 8] (fun _ i wr => ∃ k : Nat, k ≤ l.length ∧ i = .int .i64 k ∧ Ext w wr ∧ findGe d 0 l = findGe d k (l.drop k)) (fun _ i _ => l.length - (intOf i).toNat)
  case atStart => exact ⟨0, Nat.zero_le _, rfl, Ext.refl _, rfl⟩
  case round =>
    obtain ⟨k, hk, rfl, hE, hf⟩ := hrel
    have HF := Lib.hid hf; clear hf
    have HE := Lib.hid hE; clear hE
    by_cases hlt : k < l.length
    · obtain ⟨b, off, rfl, hbl, hR⟩ := HH.out.resolve_left (fun e => by rw [e] at hlt; simp at hlt)
      obtain ⟨c1, c2⟩ := hR.ext HE.out k _ (List.getElem?_eq_getElem hlt)
      have hbw := Nat.lt_of_lt_of_le hbl HE.out.size
      have hR' := Lib.hid hR; clear hR
      have hd : findGe d k (l.drop k) = if d ≤ l[k].1 then some k else findGe d (k + 1) (l.drop (k + 1)) := by
        rw [List.drop_eq_getElem_cons hlt]; rfl
      have HD := Lib.hid hd; clear hd
      generalize l[k] = x at *
      have hgr := HE.out.cell HG.out
      have HGR := Lib.hid hgr; clear hgr
      by_cases hle : d ≤ x.1
      · go_wp2_with (first | (go_at_call 123; refine (geq_c _ _ _ _ HGR.out).mono ?_; rintro e w1 ⟨rfl, hE1⟩; have HE1 := Lib.hid hE1; clear hE1))
        go_ret
        have hz : findGe d 0 l = some k := by rw [HF.out, HD.out, if_pos hle]
        exact ⟨by rw [hz]; rfl, HE.out.trans HE1.out⟩
      · go_wp2_with (first | (go_at_call 123; refine (geq_c _ _ _ _ HGR.out).mono ?_; rintro e w1 ⟨rfl, hE1⟩; have HE1 := Lib.hid hE1; clear hE1))
        go_roundw
        case rel => exact ⟨k + 1, by omega, by go_num, HE.out.trans HE1.out, by rw [HF.out, HD.out, if_neg (by omega)]⟩
        case measure => simp [intOf]; omega
    · go_wp2
      go_ret
      have hz : findGe d 0 l = none := by rw [HF.out, List.drop_of_length_le (by omega)]; rfl
      exact ⟨by rw [hz]; rfl, HE.out⟩
end Go.Proofs.Ytgdcidbpadhkpaa
