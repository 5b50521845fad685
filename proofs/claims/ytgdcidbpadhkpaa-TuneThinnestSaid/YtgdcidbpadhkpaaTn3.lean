import Derived.Deep.DeepMust
import Derived.Test.YtgdcidbpadhkpaaRows
import Derived.WalkKit
import Derived.WalkSpells
import Derived.Lib.Hide
import Derived.Deep.LoopGhost
import Derived.Test.YtgdcidbpadhkpaaTn2

set_option linter.unusedVariables false
set_option linter.unusedSimpArgs false
namespace Go.Proofs.Ytgdcidbpadhkpaa
open Go.RowKit

theorem rgd_zero {b : Bool} : rgd b = 0 ↔ b = true := by cases b <;> simp [rgd]
theorem rowBad_zero {x : Int × Int} : rowBad x = 0 ↔ RowOk x := by
  simp only [rowBad, firstE, echoE]
  by_cases h1 : (decide (0 ≤ x.1) && decide (x.1 ≤ 100000)) = true <;> by_cases h2 : (decide (1 ≤ x.2) && decide (x.2 ≤ 1000000)) = true
  all_goals (simp [rgd, h1, h2, RowOk]; simp at h1 h2; omega)
def Asc (l : List (Int × Int)) : Prop := l.Pairwise fun a b => a.1 < b.1
theorem ckFrom_ok : ∀ (l : List (Int × Int)) (i : Nat) (p : Option Int), (ckFrom i p l).2 = 0 → (∀ x ∈ l, RowOk x) ∧ Asc l ∧ ∀ d, p = some d → ∀ x ∈ l, d < x.1
  | [], _, _, _ => ⟨by simp, List.Pairwise.nil, by simp⟩
  | x :: xs, i, p, h => by
    unfold ckFrom at h
    by_cases h1 : rowBad x ≠ 0
    · rw [if_pos h1] at h; exact absurd h h1
    rw [if_neg h1] at h
    have hx : RowOk x := rowBad_zero.1 (by simpa using h1)
    cases p with
    | none =>
      simp only [ordBad, Bool.false_eq_true, if_false] at h
      obtain ⟨k1, k2, k3⟩ := ckFrom_ok xs _ _ h
      exact ⟨by intro y hy; rcases List.mem_cons.1 hy with rfl | hy; exact hx; exact k1 y hy, List.Pairwise.cons (fun y hy => k3 x.1 rfl y hy) k2, by simp⟩
    | some d =>
      by_cases h2 : x.1 ≤ d
      · rw [if_pos (by simpa [ordBad] using h2)] at h; simp at h
      rw [if_neg (by simpa [ordBad] using h2)] at h
      obtain ⟨k1, k2, k3⟩ := ckFrom_ok xs _ _ h
      refine ⟨by intro y hy; rcases List.mem_cons.1 hy with rfl | hy; exact hx; exact k1 y hy, List.Pairwise.cons (fun y hy => k3 x.1 rfl y hy) k2, ?_⟩
      rintro d' ⟨⟩ y hy
      rcases List.mem_cons.1 hy with rfl | hy
      · omega
      · have := k3 x.1 rfl y hy; omega
structure TabOk (l : List (Int × Int)) : Prop where
  pos : 0 < l.length
  few : l.length ≤ 20
  row : ∀ x ∈ l, RowOk x
  asc : Asc l
theorem ckT_ok {l : List (Int × Int)} (h : (ckT l).2 = 0) : TabOk l ∧ (ckT l).1 = 0 := by
  unfold ckT at h ⊢
  by_cases h0 : l.length = 0
  · rw [if_pos h0] at h; simp at h
  rw [if_neg h0] at h ⊢
  by_cases h1 : 20 < l.length
  · rw [if_pos h1] at h; simp at h
  rw [if_neg h1] at h ⊢
  obtain ⟨k1, k2, _⟩ := ckFrom_ok _ _ _ h
  refine ⟨⟨by omega, by omega, k1, k2⟩, ?_⟩
  clear k1 k2 h0 h1
  generalize 0 = i at h ⊢
  generalize (none : Option Int) = p at h
  have gen : ∀ (l : List (Int × Int)) (i : Nat) (p : Option Int), (ckFrom i p l).2 = 0 → (ckFrom i p l).1 = 0 := by
    intro l
    induction l with
    | nil => intro _ _ _; rfl
    | cons x xs ih =>
      intro i p h
      unfold ckFrom at h ⊢
      by_cases h1 : rowBad x ≠ 0
      · rw [if_pos h1] at h; exact absurd h h1
      rw [if_neg h1] at h ⊢
      by_cases h2 : ordBad p x.1 = true
      · rw [if_pos h2] at h; simp at h
      · rw [if_neg h2] at h ⊢; exact ih _ _ h
  exact gen l i p h
theorem TabOk.get {l : List (Int × Int)} (h : TabOk l) {i : Nat} (hi : i < l.length) : RowOk l[i] := h.row _ (List.getElem_mem hi)
theorem TabOk.lt {l : List (Int × Int)} (h : TabOk l) {i j : Nat} (hj : j < l.length) (hij : i < j) : l[i].1 < l[j].1 := List.pairwise_iff_getElem.1 h.asc i j (by omega) hj hij

theorem findGe_lt {d : Int} : ∀ {l : List (Int × Int)} {k i : Nat}, findGe d k l = some i → k ≤ i ∧ i < k + l.length
  | [], _, _, h => by simp [findGe] at h
  | x :: xs, k, i, h => by
    unfold findGe at h
    by_cases h1 : d ≤ x.1
    · rw [if_pos h1] at h; injection h with h; subst h; simp
    · rw [if_neg h1] at h; have := findGe_lt h; simp; omega

def echoAtS (l : List (Int × Int)) (d : Int) : (Int × Int) × Int :=
  if (ckT l).2 ≠ 0 then ((0, 0), (ckT l).2) else if ¬ (0 ≤ d ∧ d ≤ 100000) then ((0, 0), 2) else
  match findGe d 0 l with
  | none => ((0, 0), 12)
  | some i => if i = 0 ∧ d < (l.getD 0 (0, 0)).1 then ((0, 0), 12) else (btw (l.getD (i - 1) (0, 0)) (l.getD i (0, 0)) d, 0)


theorem set2 {w W : World} (h : Ext w W) {a b : Addr} (ha : w.heap.size ≤ a.block) (hb : w.heap.size ≤ b.block) (u v : Value) : Ext w ((W.setCell a u).setCell b v) := (h.set ha _).set hb _

set_option maxRecDepth 100000 in
set_option maxHeartbeats 2000000 in
theorem echoAt_err (l : List (Int × Int)) (A : Option Addr) (c : Nat) (d : Int) (w : World) (h : RowsS w A l) (h0 : (ckT l).2 ≠ 0) :
    Calls Try.prog 87 #[.slice A l.length c, .int .i64 d] w fun e w' => e = .returned (.tuple #[.agg #[.int .i64 0, .int .i64 0], .int .i64 (ckT l).2]) ∧ Ext w w' := by
  have HH := Lib.hid h; clear h
  have hb : ((ckT l).2 == 0) = false := by simpa using h0
  obtain ⟨r, hr⟩ : ∃ r, (ckT l).2 = r := ⟨_, rfl⟩
  rw [hr] at h0 hb ⊢
  have HR := Lib.hid hr; clear hr
  go_enter Try.func87, Try.ntmps87
  go_wp2_with (go_at_call 34; refine (checkTable_c l A c _ (HH.out.ext (((Ext.refl w).alloc _).alloc _))).mono ?_; go_must (rintro e W ⟨rfl, hE1⟩; have q0 : W.cell? ⟨w.heap.size, 0, none⟩ = some (.int .i64 d) := hE1.cell (by simp); have q1 : W.cell? ⟨w.heap.size + 1, 0, none⟩ = some (.int .i64 0) := hE1.cell (by simp); have q2 : W.cell? ⟨w.heap.size + 1, 1, none⟩ = some (.int .i64 0) := hE1.cell (by simp); have f1 : W.frozen? ⟨w.heap.size + 1, 0, none⟩ = false := hE1.fz (by simp) (by simp); have f2 : W.frozen? ⟨w.heap.size + 1, 1, none⟩ = false := hE1.fz (by simp) (by simp); have zs : w.heap.size + 1 < W.heap.size := Nat.lt_of_lt_of_le (by simp) hE1.size; have hEw : Ext w W := (((Ext.refl w).alloc _).alloc _).trans hE1; have HE := Lib.hid hEw; clear hEw hE1; have Hckr := HR.out; clear HR; rw [Hckr]; clear Hckr))
  refine bodyPost_ret (v := .tuple #[.agg #[.int .i64 0, .int .i64 0], .int .i64 r]) (by simp [results, Try.results87, go_sem, q1, q2]) rfl ⟨rfl, ?_⟩
  exact set2 HE.out (by simp) (by simp) _ _

theorem checkTable_ok_c (l : List (Int × Int)) (A : Option Addr) (c : Nat) (w : World) (h0 : (ckT l).2 = 0) (h : RowsS w A l) :
    Calls Try.prog 34 #[.slice A l.length c] w fun e w' => e = .returned (.tuple #[.int .i64 0, .int .i64 0]) ∧ Ext w w' := by
  have hc := checkTable_c l A c w h
  rw [h0, (ckT_ok h0).2] at hc
  exact hc
theorem indexRow_none_c (l : List (Int × Int)) (A : Option Addr) (c : Nat) (g : Nat) (d : Int) (w : World) (h : RowsS w A l) (hl : l.length ≤ 1000000) (hg : w.cell? ⟨g, 0, none⟩ = some (.int .i64 d)) (hn : findGe d 0 l = none) :
    Calls Try.prog 122 #[.slice A l.length c, .func (.func 123) #[] #[.pointer (some ⟨g, 0, none⟩)]] w fun e w' => e = .returned (.int .i64 (-1)) ∧ Ext w w' := by
  have hc := indexRow_c l A c g d w h hl hg
  rw [hn] at hc
  exact hc
theorem indexRow_some_c (i : Nat) (l : List (Int × Int)) (A : Option Addr) (c : Nat) (g : Nat) (d : Int) (w : World) (h : RowsS w A l) (hl : l.length ≤ 1000000) (hg : w.cell? ⟨g, 0, none⟩ = some (.int .i64 d)) (hn : findGe d 0 l = some i) :
    Calls Try.prog 122 #[.slice A l.length c, .func (.func 123) #[] #[.pointer (some ⟨g, 0, none⟩)]] w fun e w' => e = .returned (.int .i64 i) ∧ Ext w w' := by
  have hc := indexRow_c l A c g d w h hl hg
  rw [hn] at hc
  exact hc

set_option maxRecDepth 100000 in
set_option maxHeartbeats 2000000 in
theorem echoAt_range (l : List (Int × Int)) (A : Option Addr) (c : Nat) (d : Int) (w : World) (h : RowsS w A l) (h0 : (ckT l).2 = 0) (hd : ¬ (0 ≤ d ∧ d ≤ 100000)) :
    Calls Try.prog 87 #[.slice A l.length c, .int .i64 d] w fun e w' => e = .returned (.tuple #[.agg #[.int .i64 0, .int .i64 0], .int .i64 2]) ∧ Ext w w' := by
  have HH := Lib.hid h; clear h
  have HR := Lib.hid h0; clear h0
  have HD := Lib.hid hd; clear hd
  go_enter Try.func87, Try.ntmps87
  go_wp2_with (first | (go_at_call 34; refine (checkTable_ok_c l A c _ HR.out (HH.out.ext (((Ext.refl w).alloc _).alloc _))).mono ?_; go_must (rintro e W ⟨rfl, hE1⟩; have q0 : W.cell? ⟨w.heap.size, 0, none⟩ = some (.int .i64 d) := hE1.cell (by simp); have q1 : W.cell? ⟨w.heap.size + 1, 0, none⟩ = some (.int .i64 0) := hE1.cell (by simp); have q2 : W.cell? ⟨w.heap.size + 1, 1, none⟩ = some (.int .i64 0) := hE1.cell (by simp); have f1 : W.frozen? ⟨w.heap.size + 1, 0, none⟩ = false := hE1.fz (by simp) (by simp); have f2 : W.frozen? ⟨w.heap.size + 1, 1, none⟩ = false := hE1.fz (by simp) (by simp); have zs : w.heap.size + 1 < W.heap.size := Nat.lt_of_lt_of_le (by simp) hE1.size; have hEw : Ext w W := (((Ext.refl w).alloc _).alloc _).trans hE1; have HE := Lib.hid hEw; clear hEw hE1)) | (go_at_call 73; refine (within_f _ _ _ _ HD.out).mono ?_; rintro e w9 ⟨rfl, rfl⟩))
  refine bodyPost_ret (v := .tuple #[.agg #[.int .i64 0, .int .i64 0], .int .i64 2]) (by simp [results, Try.results87, go_sem, q1, q2]) rfl ⟨rfl, ?_⟩
  exact set2 HE.out (by simp) (by simp) _ _

set_option maxRecDepth 100000 in
set_option maxHeartbeats 2000000 in
theorem echoAt_none (l : List (Int × Int)) (A : Option Addr) (c : Nat) (d : Int) (w : World) (h : RowsS w A l) (h0 : (ckT l).2 = 0) (h1 : 0 ≤ d) (h2 : d ≤ 100000) (hf : findGe d 0 l = none) :
    Calls Try.prog 87 #[.slice A l.length c, .int .i64 d] w fun e w' => e = .returned (.tuple #[.agg #[.int .i64 0, .int .i64 0], .int .i64 12]) ∧ Ext w w' := by
  have HH := Lib.hid h; clear h
  have HR := Lib.hid h0; clear h0
  have HF := Lib.hid hf; clear hf
  go_enter Try.func87, Try.ntmps87
  go_wp2_with (first | (go_at_call 34; refine (checkTable_ok_c l A c _ HR.out (HH.out.ext (((Ext.refl w).alloc _).alloc _))).mono ?_; go_must (rintro e W ⟨rfl, hE1⟩; have q0 : W.cell? ⟨w.heap.size, 0, none⟩ = some (.int .i64 d) := hE1.cell (by simp); have q1 : W.cell? ⟨w.heap.size + 1, 0, none⟩ = some (.int .i64 0) := hE1.cell (by simp); have q2 : W.cell? ⟨w.heap.size + 1, 1, none⟩ = some (.int .i64 0) := hE1.cell (by simp); have f1 : W.frozen? ⟨w.heap.size + 1, 0, none⟩ = false := hE1.fz (by simp) (by simp); have f2 : W.frozen? ⟨w.heap.size + 1, 1, none⟩ = false := hE1.fz (by simp) (by simp); have zs : w.heap.size + 1 < W.heap.size := Nat.lt_of_lt_of_le (by simp) hE1.size; have hEw : Ext w W := (((Ext.refl w).alloc _).alloc _).trans hE1; have HE := Lib.hid hEw; clear hEw hE1)) | (go_at_call 73; refine (within_t _ _ _ _ ⟨h1, h2⟩).mono ?_; rintro e w9 ⟨rfl, rfl⟩) | (go_at_call 122; refine (indexRow_none_c l A c _ d _ (HH.out.ext HE.out) (Nat.le_trans (ckT_ok HR.out).1.few (by omega)) q0 HF.out).mono ?_; go_must (rintro e W2 ⟨rfl, hE2⟩; have r0 := hE2.cell q0; have r1 := hE2.cell q1; have r2 := hE2.cell q2; have z1 := hE2.fz zs f1; have z2 := hE2.fz zs f2; have zs2 : w.heap.size + 1 < W2.heap.size := Nat.lt_of_lt_of_le zs hE2.size; have hEw : Ext w W2 := HE.out.trans hE2; have HE2 := Lib.hid hEw; clear hEw hE2 q0 q1 q2 f1 f2 zs)))
  refine wp_region_T (R := Ext) (fun w' => Ext (W2) w') [(0, 0), (1, 0), (2, 0), (3, 0), (4, 0), (5, 0), (6, 0), (7, 0), (8, 0), (9, 0), (10, 0), (11, 0), (12, 0), (13, 0)] (by kernel_rfl) (by kernel_rfl) (fun _ _ h k => k.trans h) ((Ext.refl _).drew) ?_
  iterate 14
    first
      | (apply wpT_no
         focus (simp only [List.getElem?_toArray, List.getElem?_cons_zero, List.getElem?_cons_succ]; rfl)
         focus rfl
         focus (simp only [Act.put, List.setIfInBounds_toArray, List.set_cons_zero, List.set_cons_succ]; rfl))
      | (apply wpT_ex
         focus (simp only [List.getElem?_toArray, List.getElem?_cons_zero, List.getElem?_cons_succ]; rfl)
         focus rfl
         focus
           intro w1 hC Ψ hΨ
           skip
           go_simp; (try (go_bits; (try go_simp)))
           first
             | exact hΨ _ (Ext.refl _)
         focus (simp only [Act.put, List.setIfInBounds_toArray, List.set_cons_zero, List.set_cons_succ]; rfl))
  refine wpT_nil ?_
  intro w3 hC
  have HC := Lib.hid hC; clear hC
  have t1 := HC.out.cell r1
  have t2 := HC.out.cell r2
  have y1 := HC.out.fz zs2 z1
  have y2 := HC.out.fz zs2 z2
  clear r0 r1 r2 z1 z2
  go_wp2
  refine bodyPost_ret (v := .tuple #[.agg #[.int .i64 0, .int .i64 0], .int .i64 12]) (by simp [results, Try.results87, go_sem, t1, t2]) rfl ⟨rfl, ?_⟩
  exact set2 (HE2.out.trans HC.out) (by simp) (by simp) _ _

set_option maxRecDepth 100000 in
set_option maxHeartbeats 2000000 in
theorem echoAt_low (l : List (Int × Int)) (A : Option Addr) (c : Nat) (d : Int) (w : World) (h : RowsS w A l) (h0 : (ckT l).2 = 0) (h1 : 0 ≤ d) (h2 : d ≤ 100000) (hf : findGe d 0 l = some 0) (h3 : d < (l.getD 0 (0, 0)).1) :
    Calls Try.prog 87 #[.slice A l.length c, .int .i64 d] w fun e w' => e = .returned (.tuple #[.agg #[.int .i64 0, .int .i64 0], .int .i64 12]) ∧ Ext w w' := by
  have HH := Lib.hid h; clear h
  have HR := Lib.hid h0; clear h0
  have HF := Lib.hid hf; clear hf
  have hpos := (ckT_ok HR.out).1.pos
  obtain ⟨b, off, rfl, hbl, hR⟩ := HH.out.resolve_left (fun e => by rw [e] at hpos; simp at hpos)
  have c1 := (hR 0 _ (List.getElem?_eq_getElem hpos)).1
  have hx : l.getD 0 (0, 0) = l[0] := by simp [hpos]
  rw [hx] at h3
  clear hx
  have hR' := Lib.hid hR; clear hR
  generalize l[0] = x at *
  have HC1 := Lib.hid c1; clear c1
  go_enter Try.func87, Try.ntmps87
  go_wp2_with (first | (go_at_call 34; refine (checkTable_ok_c l _ c _ HR.out (HH.out.ext (((Ext.refl w).alloc _).alloc _))).mono ?_; go_must (rintro e W ⟨rfl, hE1⟩; have q0 : W.cell? ⟨w.heap.size, 0, none⟩ = some (.int .i64 d) := hE1.cell (by simp); have q1 : W.cell? ⟨w.heap.size + 1, 0, none⟩ = some (.int .i64 0) := hE1.cell (by simp); have q2 : W.cell? ⟨w.heap.size + 1, 1, none⟩ = some (.int .i64 0) := hE1.cell (by simp); have f1 : W.frozen? ⟨w.heap.size + 1, 0, none⟩ = false := hE1.fz (by simp) (by simp); have f2 : W.frozen? ⟨w.heap.size + 1, 1, none⟩ = false := hE1.fz (by simp) (by simp); have zs : w.heap.size + 1 < W.heap.size := Nat.lt_of_lt_of_le (by simp) hE1.size; have hEw : Ext w W := (((Ext.refl w).alloc _).alloc _).trans hE1; have HE := Lib.hid hEw; clear hEw hE1)) | (go_at_call 73; refine (within_t _ _ _ _ ⟨h1, h2⟩).mono ?_; rintro e w9 ⟨rfl, rfl⟩) | (go_at_call 122; refine (indexRow_some_c 0 l _ c _ d _ (HH.out.ext HE.out) (Nat.le_trans (ckT_ok HR.out).1.few (by omega)) q0 HF.out).mono ?_; go_must (rintro e W2 ⟨rfl, hE2⟩; have r0 := hE2.cell q0; have r1 := hE2.cell q1; have r2 := hE2.cell q2; have z1 := hE2.fz zs f1; have z2 := hE2.fz zs f2; have zs2 : w.heap.size + 1 < W2.heap.size := Nat.lt_of_lt_of_le zs hE2.size; have hEw : Ext w W2 := HE.out.trans hE2; have HE2 := Lib.hid hEw; clear hEw hE2 q0 q1 q2 f1 f2 zs)))
  have e1 : W2.cell? ⟨b, off, none⟩ = some (.int .i64 x.1) := by have := HE2.out.cell HC1.out; simpa using this
  have hbw : b < W2.heap.size := Nat.lt_of_lt_of_le hbl HE2.out.size
  refine wp_region_T (R := Ext) (fun w' => Ext (W2) w') [(0, 0), (1, 0), (2, 0), (3, 0), (4, 0), (5, 0), (6, 0), (7, 0), (8, 0), (9, 0), (10, 0), (11, 0), (12, 0), (13, 0)] (by kernel_rfl) (by kernel_rfl) (fun _ _ h k => k.trans h) ((Ext.refl _).drew) ?_
  iterate 14
    first
      | (apply wpT_no
         focus (simp only [List.getElem?_toArray, List.getElem?_cons_zero, List.getElem?_cons_succ]; rfl)
         focus rfl
         focus (simp only [Act.put, List.setIfInBounds_toArray, List.set_cons_zero, List.set_cons_succ]; rfl))
      | (apply wpT_ex
         focus (simp only [List.getElem?_toArray, List.getElem?_cons_zero, List.getElem?_cons_succ]; rfl)
         focus rfl
         focus
           intro w1 hC Ψ hΨ
           have d1 := hC.cell r0
           have d2 := hC.cell e1
           go_simp; (try (go_bits; (try go_simp)))
           first
             | exact hΨ _ (Ext.refl _)
         focus (simp only [Act.put, List.setIfInBounds_toArray, List.set_cons_zero, List.set_cons_succ]; rfl))
  refine wpT_nil ?_
  intro w3 hC
  have HC := Lib.hid hC; clear hC
  have t1 := HC.out.cell r1
  have t2 := HC.out.cell r2
  have y1 := HC.out.fz zs2 z1
  have y2 := HC.out.fz zs2 z2
  clear r0 r1 r2 z1 z2 e1
  go_wp2
  refine bodyPost_ret (v := .tuple #[.agg #[.int .i64 0, .int .i64 0], .int .i64 12]) (by simp [results, Try.results87, go_sem, t1, t2]) rfl ⟨rfl, ?_⟩
  exact set2 (HE2.out.trans HC.out) (by simp) (by simp) _ _

set_option maxRecDepth 100000 in
set_option maxHeartbeats 2000000 in
theorem echoAt_ok0 (l : List (Int × Int)) (A : Option Addr) (c : Nat) (d : Int) (w : World) (h : RowsS w A l) (h0 : (ckT l).2 = 0) (h1 : 0 ≤ d) (h2 : d ≤ 100000) (hf : findGe d 0 l = some 0) (h3 : ¬ d < (l.getD 0 (0, 0)).1) :
    Calls Try.prog 87 #[.slice A l.length c, .int .i64 d] w fun e w' => e = .returned (.tuple #[.agg #[.int .i64 (btw (l.getD 0 (0, 0)) (l.getD 0 (0, 0)) d).1, .int .i64 (btw (l.getD 0 (0, 0)) (l.getD 0 (0, 0)) d).2], .int .i64 0]) ∧ Ext w w' := by
  have HH := Lib.hid h; clear h
  have HR := Lib.hid h0; clear h0
  have HF := Lib.hid hf; clear hf
  have hpos := (ckT_ok HR.out).1.pos
  obtain ⟨b, off, rfl, hbl, hR⟩ := HH.out.resolve_left (fun e => by rw [e] at hpos; simp at hpos)
  have c1 := (hR 0 _ (List.getElem?_eq_getElem hpos)).1
  have hx : l.getD 0 (0, 0) = l[0] := by simp [hpos]
  rw [hx] at h3 ⊢
  have hro := (ckT_ok HR.out).1.row _ (List.getElem_mem hpos)
  have c2 := (hR 0 _ (List.getElem?_eq_getElem hpos)).2
  clear hx
  have hR' := Lib.hid hR; clear hR
  generalize l[0] = x at *
  have HC1 := Lib.hid c1; clear c1
  have HC2 := Lib.hid c2; clear c2
  have hnl : (0 : Int) ≤ 0 := by omega
  go_enter Try.func87, Try.ntmps87
  go_wp2_with (first | (go_at_call 34; refine (checkTable_ok_c l _ c _ HR.out (HH.out.ext (((Ext.refl w).alloc _).alloc _))).mono ?_; go_must (rintro e W ⟨rfl, hE1⟩; have q0 : W.cell? ⟨w.heap.size, 0, none⟩ = some (.int .i64 d) := hE1.cell (by simp); have q1 : W.cell? ⟨w.heap.size + 1, 0, none⟩ = some (.int .i64 0) := hE1.cell (by simp); have q2 : W.cell? ⟨w.heap.size + 1, 1, none⟩ = some (.int .i64 0) := hE1.cell (by simp); have f1 : W.frozen? ⟨w.heap.size + 1, 0, none⟩ = false := hE1.fz (by simp) (by simp); have f2 : W.frozen? ⟨w.heap.size + 1, 1, none⟩ = false := hE1.fz (by simp) (by simp); have zs : w.heap.size + 1 < W.heap.size := Nat.lt_of_lt_of_le (by simp) hE1.size; have hEw : Ext w W := (((Ext.refl w).alloc _).alloc _).trans hE1; have HE := Lib.hid hEw; clear hEw hE1)) | (go_at_call 73; refine (within_t _ _ _ _ ⟨h1, h2⟩).mono ?_; rintro e w9 ⟨rfl, rfl⟩) | (go_at_call 122; refine (indexRow_some_c 0 l _ c _ d _ (HH.out.ext HE.out) (Nat.le_trans (ckT_ok HR.out).1.few (by omega)) q0 HF.out).mono ?_; go_must (rintro e W2 ⟨rfl, hE2⟩; have r0 := hE2.cell q0; have r1 := hE2.cell q1; have r2 := hE2.cell q2; have z1 := hE2.fz zs f1; have z2 := hE2.fz zs f2; have zs2 : w.heap.size + 1 < W2.heap.size := Nat.lt_of_lt_of_le zs hE2.size; have hEw : Ext w W2 := HE.out.trans hE2; have HE2 := Lib.hid hEw; clear hEw hE2 q0 q1 q2 f1 f2 zs)))
  have e1 : W2.cell? ⟨b, off, none⟩ = some (.int .i64 x.1) := by have := HE2.out.cell HC1.out; simpa using this
  have hbw : b < W2.heap.size := Nat.lt_of_lt_of_le hbl HE2.out.size
  have e2 : W2.cell? ⟨b, off + 1, none⟩ = some (.int .i64 x.2) := by have := HE2.out.cell HC2.out; simpa using this
  refine wp_region_T (R := Ext) (fun w' => Ext (W2) w') [(0, 0), (1, 0), (2, 0), (3, 0), (4, 0), (5, 0), (6, 0), (7, 0), (8, 0), (9, 0), (10, 0), (11, 0), (12, 0), (13, 0)] (by kernel_rfl) (by kernel_rfl) (fun _ _ h k => k.trans h) ((Ext.refl _).drew) ?_
  iterate 14
    first
      | (apply wpT_no
         focus (simp only [List.getElem?_toArray, List.getElem?_cons_zero, List.getElem?_cons_succ]; rfl)
         focus rfl
         focus (simp only [Act.put, List.setIfInBounds_toArray, List.set_cons_zero, List.set_cons_succ]; rfl))
      | (apply wpT_ex
         focus (simp only [List.getElem?_toArray, List.getElem?_cons_zero, List.getElem?_cons_succ]; rfl)
         focus rfl
         focus
           intro w1 hC Ψ hΨ
           have d1 := hC.cell r0
           have d2 := hC.cell e1
           go_simp; (try (go_bits; (try go_simp)))
           first
             | exact hΨ _ (Ext.refl _)
         focus (simp only [Act.put, List.setIfInBounds_toArray, List.set_cons_zero, List.set_cons_succ]; rfl))
  refine wpT_nil ?_
  intro w3 hC
  have HC := Lib.hid hC; clear hC
  have t0 := HC.out.cell r0
  have t1 := HC.out.cell r1
  have t2 := HC.out.cell r2
  have k1 := HC.out.cell e1
  have k2 := HC.out.cell e2
  have y1 := HC.out.fz zs2 z1
  have y2 := HC.out.fz zs2 z2
  have zs3 := Nat.lt_of_lt_of_le zs2 HC.out.size
  clear r0 r1 r2 z1 z2 e1 e2
  go_wp2
  refine wp_region_Tt (R := Ext) 12 (fun w' => Ext (w3) w') [(0, 0), (1, 0), (2, 0), (3, 0), (4, 0), (5, 0), (6, 0), (7, 0), (8, 0), (9, 0), (10, 0), (11, 0)] (by kernel_rfl) (by kernel_rfl) (fun _ _ h k => k.trans h) ((Ext.refl _).drew) ?_
  iterate 11
    first
      | (apply wpT_no
         focus (simp only [List.getElem?_toArray, List.getElem?_cons_zero, List.getElem?_cons_succ]; rfl)
         focus rfl
         focus (simp only [Act.put, List.setIfInBounds_toArray, List.set_cons_zero, List.set_cons_succ]; rfl))
      | (apply wpT_ex
         focus (simp only [List.getElem?_toArray, List.getElem?_cons_zero, List.getElem?_cons_succ]; rfl)
         focus rfl
         focus
           intro w1 hC Ψ hΨ
           have d1 := hC.cell k1
           have d2 := hC.cell k2
           have d5 := hC.cell t0
           go_simp; (try (go_bits; (try go_simp)))
           first
             | exact hΨ _ (Ext.refl _)
         focus (simp only [Act.put, List.setIfInBounds_toArray, List.set_cons_zero, List.set_cons_succ]; rfl))
  iterate 1
    first
      | (apply wpT_no
         focus (simp only [List.getElem?_toArray, List.getElem?_cons_zero, List.getElem?_cons_succ]; rfl)
         focus rfl
         focus (simp only [Act.put, List.setIfInBounds_toArray, List.set_cons_zero, List.set_cons_succ]; rfl))
      | (apply wpT_ex
         focus (simp only [List.getElem?_toArray, List.getElem?_cons_zero, List.getElem?_cons_succ]; rfl)
         focus rfl
         focus
           intro w1 hC Ψ hΨ
           skip
           go_simp; (try (go_bits; (try go_simp)))
           first
             | exact hΨ _ (Ext.refl _)
             | (go_at_call 116; refine (between_c _ _ _ _ hro hro h1 h2 (.inl rfl)).mono ?_; rintro e w2 ⟨rfl, hE2⟩; exact ⟨_, rfl, hΨ _ hE2⟩)
         focus (simp only [Act.put, List.setIfInBounds_toArray, List.set_cons_zero, List.set_cons_succ]; rfl))
  refine wpT_nil ?_
  intro w4 hC
  simp only [List.drop_succ_cons, List.drop_zero]
  have HC' := Lib.hid hC; clear hC
  have s1 := HC'.out.cell t1
  have s2 := HC'.out.cell t2
  have x1 := HC'.out.fz zs3 y1
  have x2 := HC'.out.fz zs3 y2
  clear t0 t1 t2 y1 y2 k1 k2
  go_wp2
  refine bodyPost_ret (v := .tuple #[.agg #[.int .i64 (btw x x d).1, .int .i64 (btw x x d).2], .int .i64 0]) (by simp [results, Try.results87, go_sem, s1, s2]) rfl ⟨rfl, ?_⟩
  exact set2 ((HE2.out.trans HC.out).trans HC'.out) (by simp) (by simp) _ _

set_option maxRecDepth 100000 in
set_option maxHeartbeats 2000000 in
theorem echoAt_ok1 (l : List (Int × Int)) (A : Option Addr) (c : Nat) (d : Int) (w : World) (h : RowsS w A l) (h0 : (ckT l).2 = 0) (h1 : 0 ≤ d) (h2 : d ≤ 100000) (m : Nat) (hf : findGe d 0 l = some (m + 1)) :
    Calls Try.prog 87 #[.slice A l.length c, .int .i64 d] w fun e w' => e = .returned (.tuple #[.agg #[.int .i64 (btw (l.getD m (0, 0)) (l.getD (m + 1) (0, 0)) d).1, .int .i64 (btw (l.getD m (0, 0)) (l.getD (m + 1) (0, 0)) d).2], .int .i64 0]) ∧ Ext w w' := by
  have HH := Lib.hid h; clear h
  have HR := Lib.hid h0; clear h0
  have HF := Lib.hid hf; clear hf
  have hT := (ckT_ok HR.out).1
  have hpos := hT.pos
  have hm1 : m + 1 < l.length := by have := (findGe_lt HF.out).2; omega
  have hm : m < l.length := by omega
  obtain ⟨b, off, rfl, hbl, hR⟩ := HH.out.resolve_left (fun e => by rw [e] at hpos; simp at hpos)
  obtain ⟨c1, c2⟩ := hR m _ (List.getElem?_eq_getElem hm)
  obtain ⟨c3, c4⟩ := hR (m + 1) _ (List.getElem?_eq_getElem hm1)
  have hro := hT.get hm
  have hso := hT.get hm1
  have hlt := hT.lt hm1 (Nat.lt_succ_self m)
  have hx : l.getD m (0, 0) = l[m] := by simp [hm]
  have hy : l.getD (m + 1) (0, 0) = l[m + 1] := by simp [hm1]
  rw [hx, hy]
  have hle := hT.few
  clear hx hy hT
  have hR' := Lib.hid hR; clear hR
  generalize l[m] = x at *
  generalize l[m + 1] = y at *
  have HAB := Lib.hid (Or.inr hlt : x = y ∨ x.1 < y.1)
  have HC1 := Lib.hid (And.intro c1 c2); clear c1 c2
  have HC3 := Lib.hid (And.intro c3 c4); clear c3 c4
  have hb0 : ((m : Int) + 1 == 0) = false := by simp; omega
  have hb1 : ¬ ((m : Int) + 1 < 0) := by omega
  go_enter Try.func87, Try.ntmps87
  go_wp2_with (first | (go_at_call 34; refine (checkTable_ok_c l _ c _ HR.out (HH.out.ext (((Ext.refl w).alloc _).alloc _))).mono ?_; go_must (rintro e W ⟨rfl, hE1⟩; have q0 : W.cell? ⟨w.heap.size, 0, none⟩ = some (.int .i64 d) := hE1.cell (by simp); have q1 : W.cell? ⟨w.heap.size + 1, 0, none⟩ = some (.int .i64 0) := hE1.cell (by simp); have q2 : W.cell? ⟨w.heap.size + 1, 1, none⟩ = some (.int .i64 0) := hE1.cell (by simp); have f1 : W.frozen? ⟨w.heap.size + 1, 0, none⟩ = false := hE1.fz (by simp) (by simp); have f2 : W.frozen? ⟨w.heap.size + 1, 1, none⟩ = false := hE1.fz (by simp) (by simp); have zs : w.heap.size + 1 < W.heap.size := Nat.lt_of_lt_of_le (by simp) hE1.size; have hEw : Ext w W := (((Ext.refl w).alloc _).alloc _).trans hE1; have HE := Lib.hid hEw; clear hEw hE1)) | (go_at_call 73; refine (within_t _ _ _ _ ⟨h1, h2⟩).mono ?_; rintro e w9 ⟨rfl, rfl⟩) | (go_at_call 122; refine (indexRow_some_c (m + 1) l _ c _ d _ (HH.out.ext HE.out) (Nat.le_trans (ckT_ok HR.out).1.few (by omega)) q0 HF.out).mono ?_; go_must (rintro e W2 ⟨rfl, hE2⟩; have r0 := hE2.cell q0; have r1 := hE2.cell q1; have r2 := hE2.cell q2; have z1 := hE2.fz zs f1; have z2 := hE2.fz zs f2; have zs2 : w.heap.size + 1 < W2.heap.size := Nat.lt_of_lt_of_le zs hE2.size; have hEw : Ext w W2 := HE.out.trans hE2; have HE2 := Lib.hid hEw; clear hEw hE2 q0 q1 q2 f1 f2 zs)))
  have k1 := HE2.out.cell HC1.out.1
  have k2 := HE2.out.cell HC1.out.2
  have k3 := HE2.out.cell HC3.out.1
  have k4 := HE2.out.cell HC3.out.2
  have hbw : b < W2.heap.size := Nat.lt_of_lt_of_le hbl HE2.out.size
  refine wp_region_T (R := Ext) (fun w' => Ext (W2) w') [(0, 0), (1, 0), (2, 0), (3, 0), (4, 0), (5, 0), (6, 0), (7, 0), (8, 0), (9, 0), (10, 0), (11, 0), (12, 0), (13, 0)] (by kernel_rfl) (by kernel_rfl) (fun _ _ h k => k.trans h) ((Ext.refl _).drew) ?_
  iterate 14
    first
      | (apply wpT_no
         focus (simp only [List.getElem?_toArray, List.getElem?_cons_zero, List.getElem?_cons_succ]; rfl)
         focus rfl
         focus (simp only [Act.put, List.setIfInBounds_toArray, List.set_cons_zero, List.set_cons_succ]; rfl))
      | (apply wpT_ex
         focus (simp only [List.getElem?_toArray, List.getElem?_cons_zero, List.getElem?_cons_succ]; rfl)
         focus rfl
         focus
           intro w1 hC Ψ hΨ
           skip
           go_simp; (try (go_bits; (try go_simp)))
           first
             | exact hΨ _ (Ext.refl _)
         focus (simp only [Act.put, List.setIfInBounds_toArray, List.set_cons_zero, List.set_cons_succ]; rfl))
  refine wpT_nil ?_
  intro w3 hC
  have HC := Lib.hid hC; clear hC
  have t0 := HC.out.cell r0
  have t1 := HC.out.cell r1
  have t2 := HC.out.cell r2
  replace k1 := HC.out.cell k1
  replace k2 := HC.out.cell k2
  replace k3 := HC.out.cell k3
  replace k4 := HC.out.cell k4
  have y1 := HC.out.fz zs2 z1
  have y2 := HC.out.fz zs2 z2
  have zs3 := Nat.lt_of_lt_of_le zs2 HC.out.size
  clear r0 r1 r2 z1 z2
  go_wp2
  refine wp_region_Tt (R := Ext) 12 (fun w' => Ext (w3) w') [(0, 0), (1, 0), (2, 0), (3, 0), (4, 0), (5, 0), (6, 0), (7, 0), (8, 0), (9, 0), (10, 0), (11, 0)] (by kernel_rfl) (by kernel_rfl) (fun _ _ h k => k.trans h) ((Ext.refl _).drew) ?_
  iterate 11
    first
      | (apply wpT_no
         focus (simp only [List.getElem?_toArray, List.getElem?_cons_zero, List.getElem?_cons_succ]; rfl)
         focus rfl
         focus (simp only [Act.put, List.setIfInBounds_toArray, List.set_cons_zero, List.set_cons_succ]; rfl))
      | (apply wpT_ex
         focus (simp only [List.getElem?_toArray, List.getElem?_cons_zero, List.getElem?_cons_succ]; rfl)
         focus rfl
         focus
           intro w1 hC Ψ hΨ
           have d1 := hC.cell k1
           have d2 := hC.cell k2
           have d3 := hC.cell k3
           have d4 := hC.cell k4
           have d5 := hC.cell t0
           have d6 : (if (m : Int) < 0 then (0 : Int) else m) = m := if_neg (by omega)
           have d7 : (m : Int) + 1 < (l.length : Int) := by omega
           have d8 : (m : Int) < (l.length : Int) := by omega
           go_simp; (try (go_bits; (try go_simp)))
           first
             | exact hΨ _ (Ext.refl _)
         focus (simp only [Act.put, List.setIfInBounds_toArray, List.set_cons_zero, List.set_cons_succ]; rfl))
  iterate 1
    first
      | (apply wpT_no
         focus (simp only [List.getElem?_toArray, List.getElem?_cons_zero, List.getElem?_cons_succ]; rfl)
         focus rfl
         focus (simp only [Act.put, List.setIfInBounds_toArray, List.set_cons_zero, List.set_cons_succ]; rfl))
      | (apply wpT_ex
         focus (simp only [List.getElem?_toArray, List.getElem?_cons_zero, List.getElem?_cons_succ]; rfl)
         focus rfl
         focus
           intro w1 hC Ψ hΨ
           skip
           go_simp; (try (go_bits; (try go_simp)))
           first
             | exact hΨ _ (Ext.refl _)
             | (go_at_call 116; refine (between_c _ _ _ _ hro hso h1 h2 HAB.out).mono ?_; rintro e w2 ⟨rfl, hE2⟩; exact ⟨_, rfl, hΨ _ hE2⟩)
         focus (simp only [Act.put, List.setIfInBounds_toArray, List.set_cons_zero, List.set_cons_succ]; rfl))
  refine wpT_nil ?_
  intro w4 hC
  simp only [List.drop_succ_cons, List.drop_zero]
  have HC' := Lib.hid hC; clear hC
  have s1 := HC'.out.cell t1
  have s2 := HC'.out.cell t2
  have x1 := HC'.out.fz zs3 y1
  have x2 := HC'.out.fz zs3 y2
  clear t0 t1 t2 y1 y2 k1 k2 k3 k4
  go_wp2
  refine bodyPost_ret (v := .tuple #[.agg #[.int .i64 (btw x y d).1, .int .i64 (btw x y d).2], .int .i64 0]) (by simp [results, Try.results87, go_sem, s1, s2]) rfl ⟨rfl, ?_⟩
  exact set2 ((HE2.out.trans HC.out).trans HC'.out) (by simp) (by simp) _ _

theorem echoAt_c (l : List (Int × Int)) (A : Option Addr) (c : Nat) (d : Int) (w : World) (h : RowsS w A l) :
    Calls Try.prog 87 #[.slice A l.length c, .int .i64 d] w fun e w' => e = .returned (.tuple #[.agg #[.int .i64 (echoAtS l d).1.1, .int .i64 (echoAtS l d).1.2], .int .i64 (echoAtS l d).2]) ∧ Ext w w' := by
  by_cases h0 : (ckT l).2 = 0
  · by_cases hd : 0 ≤ d ∧ d ≤ 100000
    · cases hf : findGe d 0 l with
      | none => rw [show echoAtS l d = ((0, 0), 12) by simp [echoAtS, h0, hd, hf]]; exact echoAt_none l A c d w h h0 hd.1 hd.2 hf
      | some i =>
        cases i with
        | zero =>
          by_cases h3 : d < (l.getD 0 (0, 0)).1
          · rw [show echoAtS l d = ((0, 0), 12) by simp only [echoAtS, h0, hd, hf, h3]; simp]; exact echoAt_low l A c d w h h0 hd.1 hd.2 hf h3
          · rw [show echoAtS l d = (btw (l.getD 0 (0, 0)) (l.getD 0 (0, 0)) d, 0) by simp only [echoAtS, h0, hd, hf, h3]; simp]; exact echoAt_ok0 l A c d w h h0 hd.1 hd.2 hf h3
        | succ m => rw [show echoAtS l d = (btw (l.getD m (0, 0)) (l.getD (m + 1) (0, 0)) d, 0) by simp [echoAtS, h0, hd, hf]]; exact echoAt_ok1 l A c d w h h0 hd.1 hd.2 m hf
    · rw [show echoAtS l d = ((0, 0), 2) by simp only [echoAtS, h0, hd]; simp]; exact echoAt_range l A c d w h h0 hd
  · rw [show echoAtS l d = ((0, 0), (ckT l).2) by simp [echoAtS, h0]]; exact echoAt_err l A c d w h h0
end Go.Proofs.Ytgdcidbpadhkpaa
