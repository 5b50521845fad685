import Derived.Test.YtgdcidbpadhkpaaRows
import Derived.WalkKit
import Derived.WalkSpells
import Derived.Lib.Hide
import Derived.Deep.LoopGhost
import Derived.Test.YtgdcidbpadhkpaaReg

set_option linter.unusedVariables false
set_option linter.unusedSimpArgs false
namespace Go.Proofs.Ytgdcidbpadhkpaa
open Go.RowKit

def RowsR (w : World) (b off : Nat) (l : List (Int × Int)) : Prop :=
  ∀ i x, l[i]? = some x → w.cell? ⟨b, off + i * 2, none⟩ = some (.int .i64 x.1) ∧ w.cell? ⟨b, off + i * 2 + 1, none⟩ = some (.int .i64 x.2)
def RowsS (w : World) (A : Option Addr) (l : List (Int × Int)) : Prop := l = [] ∨ ∃ b off, A = some ⟨b, off, none⟩ ∧ b < w.heap.size ∧ RowsR w b off l
theorem RowsR.ext {w w' : World} {b off : Nat} {l : List (Int × Int)} (h : RowsR w b off l) (hE : Ext w w') : RowsR w' b off l :=
  fun i x hx => ⟨hE.cell (h i x hx).1, hE.cell (h i x hx).2⟩
theorem RowsS.ext {w w' : World} {A : Option Addr} {l : List (Int × Int)} (h : RowsS w A l) (hE : Ext w w') : RowsS w' A l :=
  h.imp id fun ⟨b, off, h1, h2, h3⟩ => ⟨b, off, h1, Nat.lt_of_lt_of_le h2 hE.size, h3.ext hE⟩
def IntsR (w : World) (b off : Nat) (l : List Int) : Prop := ∀ i x, l[i]? = some x → w.cell? ⟨b, off + i, none⟩ = some (.int .i64 x)
theorem IntsR.ext {w w' : World} {b off : Nat} {l : List Int} (h : IntsR w b off l) (hE : Ext w w') : IntsR w' b off l :=
  fun i x hx => hE.cell (h i x hx)

theorem within_c (n lo hi : Int) (w : World) :
    Calls Try.prog 73 #[.int .i64 n, .int .i64 lo, .int .i64 hi] w fun e w' => e = .returned (.bool (decide (lo ≤ n) && decide (n ≤ hi))) ∧ w = w' := by
  by_cases h1 : lo ≤ n <;> by_cases h2 : n ≤ hi
  all_goals
    go_enter Try.func73, Try.ntmps73
    go_wp2
    go_ret
    simp [h1, h2]

theorem within_t (n lo hi : Int) (w : World) (h : lo ≤ n ∧ n ≤ hi) :
    Calls Try.prog 73 #[.int .i64 n, .int .i64 lo, .int .i64 hi] w fun e w' => e = .returned (.bool true) ∧ w = w' := by
  have hc := within_c n lo hi w
  rw [show (decide (lo ≤ n) && decide (n ≤ hi)) = true by simpa using h] at hc
  exact hc
theorem within_f (n lo hi : Int) (w : World) (h : ¬ (lo ≤ n ∧ n ≤ hi)) :
    Calls Try.prog 73 #[.int .i64 n, .int .i64 lo, .int .i64 hi] w fun e w' => e = .returned (.bool false) ∧ w = w' := by
  have hc := within_c n lo hi w
  rw [show (decide (lo ≤ n) && decide (n ≤ hi)) = false by rw [← Bool.not_eq_true]; simpa using h] at hc
  exact hc
def rgd (b : Bool) : Int := if b then 0 else 2
theorem ranged_c (b : Bool) (w : World) :
    Calls Try.prog 85 #[.bool b] w fun e w' => e = .returned (.int .i64 (rgd b)) ∧ w = w' := by
  cases b
  all_goals
    go_enter Try.func85, Try.ntmps85
    go_wp2
    go_ret
    simp [rgd]
def echoE (n : Int) : Int := rgd (decide (1 ≤ n) && decide (n ≤ 1000000))
theorem echoErr_c (n : Int) (w : World) :
    Calls Try.prog 86 #[.int .i64 n] w fun e w' => e = .returned (.int .i64 (echoE n)) ∧ w = w' := by
  go_enter Try.func86, Try.ntmps86
  go_wp2_with (first | (go_at_call 73; refine (within_c _ _ _ _).mono ?_; rintro e w' ⟨rfl, rfl⟩) | (go_at_call 85; refine (ranged_c _ _).mono ?_; rintro e w' ⟨rfl, rfl⟩))
  go_ret
  exact ⟨rfl, rfl⟩

def firstE : List Int → Int
  | [] => 0
  | x :: xs => if x = 0 then firstE xs else x

set_option maxHeartbeats 400000 in
theorem first_c (l : List Int) (b off : Nat) (c : Nat) (w : World) (h : IntsR w b off l) (hl : l.length ≤ 1000) :
    Calls Try.prog 84 #[.slice (some ⟨b, off, none⟩) l.length c] w fun e w' => e = .returned (.int .i64 (firstE l)) ∧ w = w' := by
  go_enter Try.func84, Try.ntmps84
  go_wp2
  go_loop [4, 7] (fun _ i => ∃ k : Nat, k ≤ l.length ∧ i = .int .i64 k ∧ firstE l = firstE (l.drop k)) (fun _ i => l.length - (intOf i).toNat)
  case atStart => exact ⟨0, Nat.zero_le _, rfl, rfl⟩
  case round =>
    obtain ⟨k, hk, rfl, hf⟩ := hrel
    have HF := Lib.hid hf; clear hf
    by_cases hlt : k < l.length
    · have hcell := h k _ (List.getElem?_eq_getElem hlt)
      have hd : firstE (l.drop k) = if l[k] = 0 then firstE (l.drop (k+1)) else l[k] := by
        rw [List.drop_eq_getElem_cons hlt]; rfl
      have HD := Lib.hid hd; clear hd
      generalize l[k] = x at *
      by_cases h0 : x = 0
      · subst h0
        go_wp2
        go_round
        case rel => exact ⟨k + 1, by omega, by go_num, by rw [HF.out, HD.out]; simp⟩
        case measure => simp [intOf]; omega
      · have hb : (x == 0) = false := by simpa using h0
        go_wp2
        go_ret
        exact ⟨by rw [HF.out, HD.out, if_neg h0]; rfl, rfl⟩
    · go_wp2
      go_ret
      exact ⟨by rw [HF.out, List.drop_of_length_le (by omega)]; rfl, rfl⟩

def rowBad (x : Int × Int) : Int := firstE [rgd (decide (0 ≤ x.1) && decide (x.1 ≤ 100000)), echoE x.2]
def ordBad : Option Int → Int → Bool
  | some d, y => decide (y ≤ d)
  | none, _ => false
def ckFrom : Nat → Option Int → List (Int × Int) → Int × Int
  | _, _, [] => (0, 0)
  | i, p, x :: xs => if rowBad x ≠ 0 then (i, rowBad x) else if ordBad p x.1 = true then (i, 9) else ckFrom (i + 1) (some x.1) xs
def ckT (l : List (Int × Int)) : Int × Int := if l.length = 0 then (0, 10) else if 20 < l.length then (0, 8) else ckFrom 0 none l
def prevOf (l : List (Int × Int)) : Nat → Option Int
  | 0 => none
  | k + 1 => (l[k]?).map (·.1)

set_option maxRecDepth 100000 in
set_option maxHeartbeats 1000000 in
theorem checkTable_c (l : List (Int × Int)) (A : Option Addr) (c : Nat) (w : World) (h : RowsS w A l) :
    Calls Try.prog 34 #[.slice A l.length c] w fun e w' => e = .returned (.tuple #[.int .i64 (ckT l).1, .int .i64 (ckT l).2]) ∧ Ext w w' := by
  by_cases h0 : l.length = 0
  · have hb : ((l.length : Int) == 0) = true := by simpa using h0
    have hT : ckT l = (0, 10) := by simp [ckT, h0]
    have hT' := Lib.hid hT; clear hT
    go_enter Try.func34, Try.ntmps34
    go_wp2
    go_ret2
    exact ⟨by rw [hT'.out]; rfl, Ext.refl _⟩
  have hb : ((l.length : Int) == 0) = false := by simpa using h0
  by_cases h1 : 20 < l.length
  · have hT : ckT l = (0, 8) := by simp [ckT, h0, h1]
    have hT' := Lib.hid hT; clear hT
    go_enter Try.func34, Try.ntmps34
    go_wp2
    go_ret2
    exact ⟨by rw [hT'.out]; rfl, Ext.refl _⟩
  obtain ⟨b, off, rfl, hbl, hR⟩ := h.resolve_left (fun e => h0 (by rw [e]; rfl))
  have hT : ckT l = ckFrom 0 none l := by simp [ckT, h0, h1]
  have hT' := Lib.hid hT; clear hT
  go_enter Try.func34, Try.ntmps34
  go_wp2
  go_loopw [4, 5, 6, 17] (fun _ _ _ i wr => ∃ k : Nat, k ≤ l.length ∧ i = .int .i64 k ∧ Ext w wr ∧ ckFrom 0 none l = ckFrom k (prevOf l k) (l.drop k)) (fun _ _ _ i _ => l.length - (intOf i).toNat)
  case atStart => exact ⟨0, Nat.zero_le _, rfl, Ext.refl _, rfl⟩
  case round =>
    obtain ⟨k, hk, rfl, hE, hf⟩ := hrel
    have HF := Lib.hid hf; clear hf
    have HHE := Lib.hid hE; clear hE
    by_cases hlt : k < l.length
    · obtain ⟨c1, c2⟩ := hR.ext HHE.out k _ (List.getElem?_eq_getElem hlt)
      have hbw := Nat.lt_of_lt_of_le hbl HHE.out.size
      have hd : ckFrom k (prevOf l k) (l.drop k) = if rowBad l[k] ≠ 0 then ((k : Int), rowBad l[k]) else if ordBad (prevOf l k) l[k].1 = true then ((k : Int), 9) else ckFrom (k + 1) (prevOf l (k + 1)) (l.drop (k + 1)) := by
        rw [List.drop_eq_getElem_cons hlt, show prevOf l (k + 1) = some l[k].1 from by simp [prevOf, hlt]]; rfl
      have HD := Lib.hid hd; clear hd
      generalize l[k] = x at *
      go_wp2
      refine wp_region_T (R := Ext) (fun w' => Ext (wr.alloc (.cells #[.int .i64 x.1, .int .i64 x.2] 59)) w') [(0, 0), (1, 0), (2, 0), (3, 0), (4, 0), (5, 0), (6, 0), (7, 1), (8, 0), (9, 0)] (by kernel_rfl) (by kernel_rfl) (fun _ _ h k => k.trans h) ((Ext.refl _).drew) ?_
      iterate 7
        first
          | (apply wpT_no
             focus (simp only [List.getElem?_toArray, List.getElem?_cons_zero, List.getElem?_cons_succ]; rfl)
             focus rfl
             focus (simp only [Act.put, List.setIfInBounds_toArray, List.set_cons_zero, List.set_cons_succ]; rfl))
          | (apply wpT_ex
             focus (simp only [List.getElem?_toArray, List.getElem?_cons_zero, List.getElem?_cons_succ]; rfl)
             focus rfl
             focus
               intro w1 hC Ψ hΨ
               have d1 : w1.cell? ⟨wr.heap.size, 0, none⟩ = some (.int .i64 x.1) := hC.cell (by simp)
               have d2 : w1.cell? ⟨wr.heap.size, 1, none⟩ = some (.int .i64 x.2) := hC.cell (by simp)
               go_simp; (try (go_bits; (try go_simp)))
               first
                 | exact hΨ _ (Ext.refl _)
                 | (go_at_call 73; refine (within_c _ _ _ _).mono ?_; rintro e w2 ⟨rfl, rfl⟩; exact ⟨_, rfl, hΨ _ (Ext.refl _)⟩)
                 | (go_at_call 85; refine (ranged_c _ _).mono ?_; rintro e w2 ⟨rfl, rfl⟩; exact ⟨_, rfl, hΨ _ (Ext.refl _)⟩)
                 | (go_at_call 86; refine (echoErr_c _ _).mono ?_; rintro e w2 ⟨rfl, rfl⟩; exact ⟨_, rfl, hΨ _ (Ext.refl _)⟩)
             focus (simp only [Act.put, List.setIfInBounds_toArray, List.set_cons_zero, List.set_cons_succ]; rfl))
      apply wpT_fr (fun v w => ∃ g, v = .slice (some ⟨g, 0, none⟩) 2 2 ∧ IntsR w g 0 [rgd (decide (0 ≤ x.1) && decide (x.1 ≤ 100000)), echoE x.2])
      focus (simp only [List.getElem?_toArray, List.getElem?_cons_zero, List.getElem?_cons_succ]; rfl)
      focus rfl
      focus
        rintro v wa wb hab ⟨g, rfl, hg⟩
        exact ⟨g, rfl, fun i y hy => hab.cell (hg i y hy)⟩
      focus
        intro w1 hC Ψ hΨ
        go_simp
        refine hΨ _ _ ((Ext.refl _).alloc _) ⟨_, rfl, ?_⟩
        intro i y hy
        rcases i with _ | _ | i
        · injection hy with hy; subst hy; simp
        · injection hy with hy; subst hy; simp
        · cases hy
      intro v0 a0' ha
      simp only [Act.put, List.setIfInBounds_toArray, List.set_cons_zero, List.set_cons_succ] at ha
      subst ha
      iterate 2
        first
          | (apply wpT_no
             focus (simp only [List.getElem?_toArray, List.getElem?_cons_zero, List.getElem?_cons_succ]; rfl)
             focus rfl
             focus (simp only [Act.put, List.setIfInBounds_toArray, List.set_cons_zero, List.set_cons_succ]; rfl))
          | (apply wpT_ex
             focus (simp only [List.getElem?_toArray, List.getElem?_cons_zero, List.getElem?_cons_succ]; rfl)
             focus rfl
             focus
               intro w1 hC Ψ hΨ
               obtain ⟨hC, g, hv, hv0⟩ := hC; subst hv
               have HV := Lib.hid hv0; clear hv0
               go_simp; (try (go_bits; (try go_simp)))
               first
                 | exact hΨ _ (Ext.refl _)
                 | (go_at_call 84; refine (first_c [_, _] _ _ _ _ HV.out (by simp)).mono ?_; rintro e w2 ⟨rfl, rfl⟩; exact ⟨_, rfl, hΨ _ (Ext.refl _)⟩)
             focus (simp only [Act.put, List.setIfInBounds_toArray, List.set_cons_zero, List.set_cons_succ]; rfl))
      refine wpT_nil ?_
      intro w1 hC
      have hrb : firstE [rgd (decide (0 ≤ x.1) && decide (x.1 ≤ 100000)), echoE x.2] = rowBad x := rfl
      rw [hrb]
      have HC := Lib.hid hC.1; clear hC hrb
      have hE1 : Ext w w1 := (HHE.out.alloc _).trans HC.out
      have HE1 := Lib.hid hE1; clear hE1
      generalize rowBad x = r at *
      by_cases hr : r = 0
      · subst hr
        have e1 : w1.cell? ⟨wr.heap.size, 0, none⟩ = some (.int .i64 x.1) := HC.out.cell (by simp)
        clear c1 c2
        rcases Nat.eq_zero_or_pos k with hk0 | hkp
        · subst hk0
          go_wp2
          refine wp_region_T (R := Ext) (fun w' => Ext (w1) w') [(0, 0), (1, 0), (2, 0), (3, 0), (4, 0), (5, 0), (6, 0), (7, 0), (8, 0), (9, 0), (10, 0), (11, 0), (12, 0)] (by kernel_rfl) (by kernel_rfl) (fun _ _ h k => k.trans h) ((Ext.refl _).drew) ?_
          iterate 13
            first
              | (apply wpT_no
                 focus (simp only [List.getElem?_toArray, List.getElem?_cons_zero, List.getElem?_cons_succ]; rfl)
                 focus rfl
                 focus (simp only [Act.put, List.setIfInBounds_toArray, List.set_cons_zero, List.set_cons_succ]; rfl))
              | (apply wpT_ex
                 focus (simp only [List.getElem?_toArray, List.getElem?_cons_zero, List.getElem?_cons_succ]; rfl)
                 focus rfl
                 focus
                   intro w1 hC Ψ hΨ
                   have d1 := hC.cell e1
                   go_simp; (try (go_bits; (try go_simp)))
                   first
                     | exact hΨ _ (Ext.refl _)
                 focus (simp only [Act.put, List.setIfInBounds_toArray, List.set_cons_zero, List.set_cons_succ]; rfl))
          refine wpT_nil ?_
          intro w2 hC
          have HC := Lib.hid hC; clear hC
          go_wp2
          go_roundw
          case rel => exact ⟨1, by omega, by go_num, HE1.out.trans HC.out, by rw [HF.out, HD.out]; simp [prevOf, ordBad]⟩
          case measure => simp [intOf]; omega
        · obtain ⟨m, rfl⟩ : ∃ m, k = m + 1 := ⟨k - 1, by omega⟩
          have hm : m < l.length := by omega
          have e2 := (hR.ext HE1.out m _ (List.getElem?_eq_getElem hm)).1
          have hp : prevOf l (m + 1) = some l[m].1 := by simp [prevOf, hm]
          rw [hp] at HD HF
          clear hp
          generalize l[m] = y at *
          have hpos : (0 : Int) < (m : Int) + 1 := by omega
          go_wp2
          refine wp_region_T (R := Ext) (fun w' => Ext (w1) w') [(0, 0), (1, 0), (2, 0), (3, 0), (4, 0), (5, 0), (6, 0), (7, 0), (8, 0), (9, 0), (10, 0), (11, 0), (12, 0)] (by kernel_rfl) (by kernel_rfl) (fun _ _ h k => k.trans h) ((Ext.refl _).drew) ?_
          iterate 13
            first
              | (apply wpT_no
                 focus (simp only [List.getElem?_toArray, List.getElem?_cons_zero, List.getElem?_cons_succ]; rfl)
                 focus rfl
                 focus (simp only [Act.put, List.setIfInBounds_toArray, List.set_cons_zero, List.set_cons_succ]; rfl))
              | (apply wpT_ex
                 focus (simp only [List.getElem?_toArray, List.getElem?_cons_zero, List.getElem?_cons_succ]; rfl)
                 focus rfl
                 focus
                   intro w1 hC Ψ hΨ
                   have d1 := hC.cell e1
                   have d2 := hC.cell e2
                   go_simp; (try (go_bits; (try go_simp)))
                   first
                     | exact hΨ _ (Ext.refl _)
                 focus (simp only [Act.put, List.setIfInBounds_toArray, List.set_cons_zero, List.set_cons_succ]; rfl))
          refine wpT_nil ?_
          intro w2 hC
          have HC := Lib.hid hC; clear hC
          by_cases hle : x.1 ≤ y.1
          · go_wp2
            go_ret2
            have hz : ckT l = ((m : Int) + 1, 9) := by rw [hT'.out, HF.out, HD.out]; simp [hle, ordBad]
            exact ⟨by rw [hz]; rfl, HE1.out.trans HC.out⟩
          · go_wp2
            go_roundw
            case rel => exact ⟨m + 1 + 1, by omega, by go_num, HE1.out.trans HC.out, by rw [HF.out, HD.out]; simp [hle, ordBad]⟩
            case measure => simp [intOf]; omega
      · have hrb : (r == 0) = false := by simpa using hr
        go_wp2
        go_ret2
        exact ⟨by rw [hT'.out, HF.out, HD.out, if_pos hr]; rfl, HE1.out⟩
    · go_wp2
      go_ret2
      exact ⟨by rw [hT'.out, HF.out, List.drop_of_length_le (by omega)]; rfl, HHE.out⟩
end Go.Proofs.Ytgdcidbpadhkpaa
