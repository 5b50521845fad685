import Derived.Deep.DeepMust
import Derived.Test.YtgdcidbpadhkpaaRows
import Derived.WalkKit
import Derived.WalkSpells
import Derived.Lib.Hide
import Derived.Deep.LoopGhost
import Derived.Test.YtgdcidbpadhkpaaTn4

set_option linter.unusedVariables false
set_option linter.unusedSimpArgs false
namespace Go.Proofs.Ytgdcidbpadhkpaa
open Go.RowKit

structure Arc where
  r : Int
  lo : Int
  hi : Int

def ArcsR (w : World) (b off : Nat) (l : List Arc) : Prop :=
  ∀ i x, l[i]? = some x → w.cell? ⟨b, off + i * 3, none⟩ = some (.int .i64 x.r) ∧ w.cell? ⟨b, off + i * 3 + 1, none⟩ = some (.int .i64 x.lo) ∧ w.cell? ⟨b, off + i * 3 + 2, none⟩ = some (.int .i64 x.hi)
def ArcsS (w : World) (A : Option Addr) (l : List Arc) : Prop := l = [] ∨ ∃ b off, A = some ⟨b, off, none⟩ ∧ b < w.heap.size ∧ ArcsR w b off l
theorem ArcsR.ext {w w' : World} {b off : Nat} {l : List Arc} (h : ArcsR w b off l) (hE : Ext w w') : ArcsR w' b off l :=
  fun i x hx => ⟨hE.cell (h i x hx).1, hE.cell (h i x hx).2.1, hE.cell (h i x hx).2.2⟩
theorem ArcsS.ext {w w' : World} {A : Option Addr} {l : List Arc} (h : ArcsS w A l) (hE : Ext w w') : ArcsS w' A l :=
  h.imp id fun ⟨b, off, h1, h2, h3⟩ => ⟨b, off, h1, Nat.lt_of_lt_of_le h2 hE.size, h3.ext hE⟩

theorem isTime_c (n : Int) (w : World) :
    Calls Try.prog 105 #[.int .i64 n] w fun e w' => e = .returned (.bool (decide (0 ≤ n) && decide (n ≤ 1000000000000))) ∧ w = w' := by
  go_enter Try.func105, Try.ntmps105
  go_wp2_with (go_at_call 73; refine (within_c _ _ _ _).mono ?_; rintro e w' ⟨rfl, rfl⟩)
  go_ret
  exact ⟨rfl, rfl⟩

/-- The error of a range whose ends must be from a to b. -/
def rngE (lo hi a b : Int) : Int := if ¬ (a ≤ lo ∧ lo ≤ b) then 2 else if ¬ (a ≤ hi ∧ hi ≤ b) then 2 else if hi < lo then 9 else 0


theorem isTime_b (n : Int) (p : Bool) (w : World) (h : (decide (0 ≤ n) && decide (n ≤ 1000000000000)) = p) :
    Calls Try.prog 105 #[.int .i64 n] w fun e w' => e = .returned (.bool p) ∧ w = w' := by
  have hc := isTime_c n w
  rw [h] at hc
  exact hc
set_option maxHeartbeats 1000000 in
theorem range_isTime_c (lo hi : Int) (w : World) :
    Calls Try.prog 91 #[.agg #[.int .i64 lo, .int .i64 hi], .func (.func 105) #[] #[]] w fun e w' => e = .returned (.int .i64 (rngE lo hi (0) 1000000000000)) ∧ Ext w w' := by
  obtain ⟨p, hp⟩ : ∃ p, (decide (0 ≤ lo) && decide (lo ≤ 1000000000000)) = p := ⟨_, rfl⟩
  obtain ⟨q, hq⟩ : ∃ q, (decide (0 ≤ hi) && decide (hi ≤ 1000000000000)) = q := ⟨_, rfl⟩
  have hz : rngE lo hi (0) 1000000000000 = if p = false then 2 else if q = false then 2 else if hi < lo then 9 else 0 := by
    simp only [rngE, ← hp, ← hq, Bool.and_eq_false_iff, decide_eq_false_iff_not]
    by_cases h1 : 0 ≤ lo <;> by_cases h2 : lo ≤ 1000000000000 <;> by_cases h3 : 0 ≤ hi <;> by_cases h4 : hi ≤ 1000000000000 <;> simp [h1, h2, h3, h4]
  have HP := Lib.hid hp; clear hp
  have HQ := Lib.hid hq; clear hq
  have HZ := Lib.hid hz; clear hz
  cases p with
  | false =>
    have hz : rngE lo hi (0) 1000000000000 = 2 := by rw [HZ.out]; simp
    have HZ2 := Lib.hid hz; clear hz
    go_enter Try.func91, Try.ntmps91
    go_wp2_with (first | (go_at_call 105; (with_reducible refine (isTime_b lo false _ HP.out).mono ?_); rintro e9 w9 ⟨rfl, rfl⟩) | (go_at_call 105; (with_reducible refine (isTime_b hi q _ HQ.out).mono ?_); rintro e9 w9 ⟨rfl, rfl⟩))
    go_ret
    exact ⟨by rw [HZ2.out]; rfl, (Ext.refl _).alloc _⟩
  | true =>
    cases q with
    | false =>
      have hz : rngE lo hi (0) 1000000000000 = 2 := by rw [HZ.out]; simp
      have HZ2 := Lib.hid hz; clear hz
      go_enter Try.func91, Try.ntmps91
      go_wp2_with (first | (go_at_call 105; (with_reducible refine (isTime_b lo true _ HP.out).mono ?_); rintro e9 w9 ⟨rfl, rfl⟩) | (go_at_call 105; (with_reducible refine (isTime_b hi false _ HQ.out).mono ?_); rintro e9 w9 ⟨rfl, rfl⟩))
      go_ret
      exact ⟨by rw [HZ2.out]; rfl, (Ext.refl _).alloc _⟩
    | true =>
      by_cases hl : hi < lo
      · have hz : rngE lo hi (0) 1000000000000 = 9 := by rw [HZ.out]; simp [hl]
        have HZ2 := Lib.hid hz; clear hz
        go_enter Try.func91, Try.ntmps91
        go_wp2_with (first | (go_at_call 105; (with_reducible refine (isTime_b lo true _ HP.out).mono ?_); rintro e9 w9 ⟨rfl, rfl⟩) | (go_at_call 105; (with_reducible refine (isTime_b hi true _ HQ.out).mono ?_); rintro e9 w9 ⟨rfl, rfl⟩))
        go_ret
        exact ⟨by rw [HZ2.out]; rfl, (Ext.refl _).alloc _⟩
      · have hz : rngE lo hi (0) 1000000000000 = 0 := by rw [HZ.out]; simp [hl]
        have HZ2 := Lib.hid hz; clear hz
        go_enter Try.func91, Try.ntmps91
        go_wp2_with (first | (go_at_call 105; (with_reducible refine (isTime_b lo true _ HP.out).mono ?_); rintro e9 w9 ⟨rfl, rfl⟩) | (go_at_call 105; (with_reducible refine (isTime_b hi true _ HQ.out).mono ?_); rintro e9 w9 ⟨rfl, rfl⟩))
        go_ret
        exact ⟨by rw [HZ2.out]; rfl, (Ext.refl _).alloc _⟩


def arcBad (x : Arc) : Int := firstE [rgd (decide (1 ≤ x.r) && decide (x.r ≤ 100000)), rngE x.lo x.hi 0 1000000000000]
def ckArcs : Nat → Option Int → List Arc → Int × Int
  | _, _, [] => (0, 0)
  | i, p, x :: xs => if arcBad x ≠ 0 then (i, arcBad x) else if ordBad p x.r = true then (i, 9) else ckArcs (i + 1) (some x.r) xs
def ckA (l : List Arc) : Int × Int := if l.length < 2 then (0, 10) else if 12 < l.length then (0, 8) else ckArcs 0 none l
def prevA (l : List Arc) : Nat → Option Int
  | 0 => none
  | k + 1 => (l[k]?).map (·.r)

set_option maxRecDepth 100000 in
set_option maxHeartbeats 1000000 in
theorem checkArcs_c (l : List Arc) (A : Option Addr) (c : Nat) (w : World) (h : ArcsS w A l) :
    Calls Try.prog 58 #[.slice A l.length c] w fun e w' => e = .returned (.tuple #[.int .i64 (ckA l).1, .int .i64 (ckA l).2]) ∧ Ext w w' := by
  by_cases h0 : l.length < 2
  · have hT : ckA l = (0, 10) := by simp [ckA, h0]
    have hT' := Lib.hid hT; clear hT
    have h0' : (l.length : Int) < 2 := by omega
    go_enter Try.func58, Try.ntmps58
    go_wp2
    go_ret2
    exact ⟨by rw [hT'.out]; rfl, Ext.refl _⟩
  by_cases h1 : 12 < l.length
  · have hT : ckA l = (0, 8) := by simp [ckA, h0, h1]
    have hT' := Lib.hid hT; clear hT
    go_enter Try.func58, Try.ntmps58
    go_wp2
    go_ret2
    exact ⟨by rw [hT'.out]; rfl, Ext.refl _⟩
  obtain ⟨b, off, rfl, hbl, hR⟩ := h.resolve_left (fun e => h0 (by rw [e]; simp))
  have hT : ckA l = ckArcs 0 none l := by simp [ckA, h0, h1]
  have hT' := Lib.hid hT; clear hT
  go_enter Try.func58, Try.ntmps58
  go_wp2
  go_loopw [4, 5, 6, 7, 18] (fun _ _ _ _ i wr => ∃ k : Nat, k ≤ l.length ∧ i = .int .i64 k ∧ Ext w wr ∧ ckArcs 0 none l = ckArcs k (prevA l k) (l.drop k)) (fun _ _ _ _ i _ => l.length - (intOf i).toNat)
  case atStart => exact ⟨0, Nat.zero_le _, rfl, Ext.refl _, rfl⟩
  case round =>
    obtain ⟨k, hk, rfl, hE, hf⟩ := hrel
    have HF := Lib.hid hf; clear hf
    have HHE := Lib.hid hE; clear hE
    by_cases hlt : k < l.length
    · obtain ⟨c1, c2, c3⟩ := hR.ext HHE.out k _ (List.getElem?_eq_getElem hlt)
      have hbw := Nat.lt_of_lt_of_le hbl HHE.out.size
      have hd : ckArcs k (prevA l k) (l.drop k) = if arcBad l[k] ≠ 0 then ((k : Int), arcBad l[k]) else if ordBad (prevA l k) l[k].r = true then ((k : Int), 9) else ckArcs (k + 1) (prevA l (k + 1)) (l.drop (k + 1)) := by
        rw [List.drop_eq_getElem_cons hlt, show prevA l (k + 1) = some l[k].r from by simp [prevA, hlt]]; rfl
      have HD := Lib.hid hd; clear hd
      generalize l[k] = x at *
      go_wp2
      refine wp_region_T (R := Ext) (fun w' => Ext (wr.alloc (.cells #[.int .i64 x.r, .int .i64 x.lo, .int .i64 x.hi] 105)) w') [(0, 0), (1, 0), (2, 0), (3, 0), (4, 0), (5, 0), (6, 0), (7, 0), (8, 1), (9, 0), (10, 0)] (by kernel_rfl) (by kernel_rfl) (fun _ _ h k => k.trans h) ((Ext.refl _).drew) ?_
      iterate 8
        first
          | (apply wpT_no
             focus (simp only [List.getElem?_toArray, List.getElem?_cons_zero, List.getElem?_cons_succ]; rfl)
             focus rfl
             focus (simp only [Act.put, List.setIfInBounds_toArray, List.set_cons_zero, List.set_cons_succ]; rfl))
          | (apply wpT_ex
             focus (simp only [List.getElem?_toArray, List.getElem?_cons_zero, List.getElem?_cons_succ]; rfl)
             focus rfl
             focus
               intro w1 hC Ψ hΨ
               have d1 : w1.cell? ⟨wr.heap.size, 0, none⟩ = some (.int .i64 x.r) := hC.cell (by simp)
               have d2 : w1.cell? ⟨wr.heap.size, 1, none⟩ = some (.int .i64 x.lo) := hC.cell (by simp)
               have d3 : w1.cell? ⟨wr.heap.size, 2, none⟩ = some (.int .i64 x.hi) := hC.cell (by simp)
               go_simp; (try (go_bits; (try go_simp)))
               first
                 | exact hΨ _ (Ext.refl _)
                 | (go_at_call 73; refine (within_c _ _ _ _).mono ?_; rintro e w2 ⟨rfl, rfl⟩; exact ⟨_, rfl, hΨ _ (Ext.refl _)⟩)
                 | (go_at_call 85; refine (ranged_c _ _).mono ?_; rintro e w2 ⟨rfl, rfl⟩; exact ⟨_, rfl, hΨ _ (Ext.refl _)⟩)
                 | (go_at_call 91; refine (range_isTime_c _ _ _).mono ?_; rintro e w2 ⟨rfl, hE2⟩; exact ⟨_, rfl, hΨ _ hE2⟩)
             focus (simp only [Act.put, List.setIfInBounds_toArray, List.set_cons_zero, List.set_cons_succ]; rfl))
      apply wpT_fr (fun v w => ∃ g, v = .slice (some ⟨g, 0, none⟩) 2 2 ∧ w.cell? ⟨g, 0, none⟩ = some (.int .i64 (rgd (decide (1 ≤ x.r) && decide (x.r ≤ 100000)))) ∧ w.cell? ⟨g, 1, none⟩ = some (.int .i64 (rngE x.lo x.hi 0 1000000000000)))
      focus (simp only [List.getElem?_toArray, List.getElem?_cons_zero, List.getElem?_cons_succ]; rfl)
      focus rfl
      focus
        rintro v wa wb hab ⟨g, rfl, hg, hg2⟩
        exact ⟨g, rfl, hab.cell hg, hab.cell hg2⟩
      focus
        intro w1 hC Ψ hΨ
        go_simp
        exact hΨ _ _ ((Ext.refl _).alloc _) ⟨_, rfl, by simp, by simp⟩
      intro v0 a0' ha
      simp only [Act.put, List.setIfInBounds_toArray, List.set_cons_zero, List.set_cons_succ] at ha
      subst ha
      iterate 2
        first
          | (apply wpT_no
             focus (simp only [List.getElem?_toArray, List.getElem?_cons_zero, List.getElem?_cons_succ]; rfl)
             focus rfl
             focus (simp only [Act.put, List.setIfInBounds_toArray, List.set_cons_zero, List.set_cons_succ]; rfl))
          | (apply wpT_ex
             focus (simp only [List.getElem?_toArray, List.getElem?_cons_zero, List.getElem?_cons_succ]; rfl)
             focus rfl
             focus
               intro w1 hC Ψ hΨ
               obtain ⟨hC, g, hv, hv0, hv1⟩ := hC; subst hv
               have HV := Lib.hid (And.intro hv0 hv1); clear hv0 hv1
               go_simp; (try (go_bits; (try go_simp)))
               first
                 | exact hΨ _ (Ext.refl _)
                 | (go_at_call 84; refine (first2_c _ _ _ _ HV.out.1 HV.out.2).mono ?_; rintro e w2 ⟨rfl, rfl⟩; exact ⟨_, rfl, hΨ _ (Ext.refl _)⟩)
             focus (simp only [Act.put, List.setIfInBounds_toArray, List.set_cons_zero, List.set_cons_succ]; rfl))
      refine wpT_nil ?_
      intro w1 hC
      have hrb : firstE [rgd (decide (1 ≤ x.r) && decide (x.r ≤ 100000)), rngE x.lo x.hi 0 1000000000000] = arcBad x := rfl
      rw [hrb]
      have HC := Lib.hid hC.1; clear hC hrb
      have hE1 : Ext w w1 := (HHE.out.alloc _).trans HC.out
      have HE1 := Lib.hid hE1; clear hE1
      generalize arcBad x = r at *
      by_cases hr : r = 0
      · subst hr
        have e1 : w1.cell? ⟨wr.heap.size, 0, none⟩ = some (.int .i64 x.r) := HC.out.cell (by simp)
        clear c1 c2 c3
        rcases Nat.eq_zero_or_pos k with hk0 | hkp
        · subst hk0
          go_wp2
          refine wp_region_T (R := Ext) (fun w' => Ext (w1) w') [(0, 0), (1, 0), (2, 0), (3, 0), (4, 0), (5, 0), (6, 0), (7, 0), (8, 0), (9, 0), (10, 0), (11, 0), (12, 0)] (by kernel_rfl) (by kernel_rfl) (fun _ _ h k => k.trans h) ((Ext.refl _).drew) ?_
          iterate 13
            first
              | (apply wpT_no
                 focus (simp only [List.getElem?_toArray, List.getElem?_cons_zero, List.getElem?_cons_succ]; rfl)
                 focus rfl
                 focus (simp only [Act.put, List.setIfInBounds_toArray, List.set_cons_zero, List.set_cons_succ]; rfl))
              | (apply wpT_ex
                 focus (simp only [List.getElem?_toArray, List.getElem?_cons_zero, List.getElem?_cons_succ]; rfl)
                 focus rfl
                 focus
                   intro w1 hC Ψ hΨ
                   have d1 := hC.cell e1
                   go_simp; (try (go_bits; (try go_simp)))
                   first
                     | exact hΨ _ (Ext.refl _)
                 focus (simp only [Act.put, List.setIfInBounds_toArray, List.set_cons_zero, List.set_cons_succ]; rfl))
          refine wpT_nil ?_
          intro w2 hC
          have HC := Lib.hid hC; clear hC
          go_wp2
          go_roundw
          case rel => exact ⟨1, by omega, by go_num, HE1.out.trans HC.out, by rw [HF.out, HD.out]; simp [prevA, ordBad]⟩
          case measure => simp [intOf] <;> omega
        · obtain ⟨m, rfl⟩ : ∃ m, k = m + 1 := ⟨k - 1, by omega⟩
          have hm : m < l.length := by omega
          have e2 := (hR.ext HE1.out m _ (List.getElem?_eq_getElem hm)).1
          have hp : prevA l (m + 1) = some l[m].r := by simp [prevA, hm]
          rw [hp] at HD HF
          clear hp
          generalize l[m] = y at *
          have hpos : (0 : Int) < (m : Int) + 1 := by omega
          go_wp2
          refine wp_region_T (R := Ext) (fun w' => Ext (w1) w') [(0, 0), (1, 0), (2, 0), (3, 0), (4, 0), (5, 0), (6, 0), (7, 0), (8, 0), (9, 0), (10, 0), (11, 0), (12, 0)] (by kernel_rfl) (by kernel_rfl) (fun _ _ h k => k.trans h) ((Ext.refl _).drew) ?_
          iterate 13
            first
              | (apply wpT_no
                 focus (simp only [List.getElem?_toArray, List.getElem?_cons_zero, List.getElem?_cons_succ]; rfl)
                 focus rfl
                 focus (simp only [Act.put, List.setIfInBounds_toArray, List.set_cons_zero, List.set_cons_succ]; rfl))
              | (apply wpT_ex
                 focus (simp only [List.getElem?_toArray, List.getElem?_cons_zero, List.getElem?_cons_succ]; rfl)
                 focus rfl
                 focus
                   intro w1 hC Ψ hΨ
                   have d1 := hC.cell e1
                   have d2 := hC.cell e2
                   go_simp; (try (go_bits; (try go_simp)))
                   first
                     | exact hΨ _ (Ext.refl _)
                 focus (simp only [Act.put, List.setIfInBounds_toArray, List.set_cons_zero, List.set_cons_succ]; rfl))
          refine wpT_nil ?_
          intro w2 hC
          have HC := Lib.hid hC; clear hC
          by_cases hle : x.r ≤ y.r
          · go_wp2
            go_ret2
            have hz : ckA l = ((m : Int) + 1, 9) := by rw [hT'.out, HF.out, HD.out]; simp [hle, ordBad]
            exact ⟨by rw [hz]; rfl, HE1.out.trans HC.out⟩
          · have hz : ckArcs (m + 1) (some y.r) (l.drop (m + 1)) = ckArcs (m + 1 + 1) (prevA l (m + 1 + 1)) (l.drop (m + 1 + 1)) := by rw [HD.out]; simp [hle, ordBad]
            have HZ := Lib.hid hz; clear hz
            go_wp2
            go_roundw
            case rel => exact ⟨m + 1 + 1, by omega, by go_num, HE1.out.trans HC.out, by rw [HF.out, HZ.out]⟩
            case measure => simp [intOf] <;> omega
      · have hrb : (r == 0) = false := by simpa using hr
        go_wp2
        go_ret2
        exact ⟨by rw [hT'.out, HF.out, HD.out, if_pos hr]; rfl, HE1.out⟩
    · go_wp2
      go_ret2
      exact ⟨by rw [hT'.out, HF.out, List.drop_of_length_le (by omega)]; rfl, HHE.out⟩

set_option maxHeartbeats 1000000 in
theorem open_c (l : List Arc) (A : Option Addr) (c : Nat) (w : World) (h : ArcsS w A l) :
    Calls Try.prog 106 #[.slice A l.length c] w fun e w' => e = .returned (.tuple #[.slice A l.length c, .int .i64 (ckA l).2]) ∧ Ext w w' := by
  have hc := checkArcs_c l A c w h
  generalize (ckA l).2 = r at *
  generalize (ckA l).1 = q at *
  have HC := Lib.hid hc; clear hc
  go_enter Try.func106, Try.ntmps106
  go_wp2_with (go_at_call 58; refine HC.out.mono ?_; go_must (rintro e W ⟨rfl, hE1⟩; have HE := Lib.hid hE1; clear hE1))
  go_ret2
  exact ⟨rfl, HE.out⟩
theorem less_c (a b : Int × Int) (w : World) (h1 : -9223372036854775807 ≤ a.1 * b.2) (h2 : a.1 * b.2 ≤ 9223372036854775807) (h3 : -9223372036854775807 ≤ b.1 * a.2) (h4 : b.1 * a.2 ≤ 9223372036854775807) :
    Calls Try.prog 126 #[.agg #[.int .i64 a.1, .int .i64 a.2], .agg #[.int .i64 b.1, .int .i64 b.2]] w fun e w' => e = .returned (.bool (decide (a.1 * b.2 < b.1 * a.2))) ∧ Ext w w' := by
  go_enter Try.func126, Try.ntmps126
  go_wp2
  go_ret
  exact ⟨rfl, ((Ext.refl _).alloc _).alloc _⟩
end Go.Proofs.Ytgdcidbpadhkpaa
