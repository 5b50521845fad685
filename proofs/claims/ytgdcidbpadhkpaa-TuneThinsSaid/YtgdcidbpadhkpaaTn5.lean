import Derived.Deep.DeepMust
import Derived.Test.YtgdcidbpadhkpaaRows
import Derived.WalkKit
import Derived.WalkSpells
import Derived.Lib.Hide
import Derived.Deep.LoopGhost
import Derived.Test.YtgdcidbpadhkpaaTn4

set_option linter.unusedVariables false
set_option linter.unusedSimpArgs false
namespace Go.Proofs.Ytgdcidbpadhkpaa
open Go.RowKit

def dev (a b r : Int × Int) : Int := (btw a b r.1).1 - r.2 * (btw a b r.1).2
def okAt (a b r : Int × Int) (s : Int) : Bool := decide (((dev a b r).natAbs : Int) ≤ s * (btw a b r.1).2)
def spansS (l : List (Int × Int)) (i k : Nat) (s : Int) : Bool := ((l.take k).drop (i + 1)).all fun r => okAt (l.getD i (0, 0)) (l.getD k (0, 0)) r s

theorem btw_bd (a b : Int × Int) (d : Int) (ha : RowOk a) (hb : RowOk b) (hab : a = b ∨ a.1 < b.1) (hd : 0 ≤ d ∧ d ≤ 100000) :
    -200000000000 ≤ (btw a b d).1 ∧ (btw a b d).1 ≤ 200000000000 ∧ 1 ≤ (btw a b d).2 ∧ (btw a b d).2 ≤ 100000 := by
  have hm := btw_b a b d ha hb hd
  obtain ⟨a1, a2, a3, a4⟩ := ha
  obtain ⟨b1, b2, b3, b4⟩ := hb
  simp only [btw]
  by_cases h : a = b
  · simp only [h, if_true]; omega
  · simp only [h, if_false]
    have := hab.resolve_left h
    omega

set_option maxRecDepth 100000 in
set_option maxHeartbeats 2000000 in
theorem spans_c (l : List (Int × Int)) (A : Option Addr) (c : Nat) (i k : Nat) (s : Int) (w : World) (h : RowsS w A l) (hT : TabOk l) (hik : i < k) (hk : k < l.length) (hc : l.length ≤ c) (hc2 : c ≤ 9223372036854775807) (hs0 : 0 ≤ s) (hs1 : s ≤ 1000000) :
    Calls Try.prog 74 #[.slice A l.length c, .int .i64 i, .int .i64 k, .int .i64 s] w fun e w' => e = .returned (.bool (spansS l i k s)) ∧ Ext w w' := by
  have hpos := hT.pos
  obtain ⟨b, off, rfl, hbl, hR⟩ := h.resolve_left (fun e => by rw [e] at hpos; simp at hpos)
  have hi : i < l.length := by omega
  have hro := hT.get hi
  have hso := hT.get hk
  have hab := hT.lt hk hik
  have HT := Lib.hid hT; clear hT h
  obtain ⟨c1, c2⟩ := hR i _ (List.getElem?_eq_getElem hi)
  obtain ⟨c3, c4⟩ := hR k _ (List.getElem?_eq_getElem hk)
  have HR := Lib.hid hR; clear hR
  have hz : spansS l i k s = ((l.take k).drop (i + 1)).all fun r => okAt l[i] l[k] r s := by simp [spansS, hi, hk]
  have HZ := Lib.hid hz; clear hz
  have HC := Lib.hid (And.intro (And.intro c1 c2) (And.intro c3 c4)); clear c1 c2 c3 c4
  generalize l[i] = x at *
  generalize l[k] = y at *
  have HSO := Lib.hid (And.intro hso (Or.inr hab : x = y ∨ x.1 < y.1)); clear hso
  have hll := HT.out.few
  have hci : ¬ c = i + 1 := by omega
  go_enter Try.func74, Try.ntmps74
  go_wp2
  obtain ⟨L, hL⟩ : ∃ L, (l.take k).drop (i + 1) = L := ⟨_, rfl⟩
  have hLl : L.length = k - (i + 1) := by rw [← hL, List.length_drop, List.length_take]; omega
  have hLg : ∀ j (hj : j < L.length), ∃ h : i + 1 + j < l.length, L[j] = l[i + 1 + j] := fun j hj => ⟨by omega, by subst hL; simp⟩
  rw [hL] at HZ
  have HLG := Lib.hid hLg; clear hLg hL
  have HLL := Lib.hid hLl
  rw [← hLl]
  clear hLl
  go_loopw [10, 11, 18] (fun _ _ i wr => ∃ j : Nat, j ≤ L.length ∧ i = .int .i64 j ∧ Ext w wr ∧ (L.all fun r => okAt x y r s) = (L.drop j).all fun r => okAt x y r s) (fun _ _ i _ => L.length - (intOf i).toNat)
  case atStart => exact ⟨0, Nat.zero_le _, rfl, Ext.refl _, rfl⟩
  case round =>
    obtain ⟨j, hj, rfl, hE, hf⟩ := hrel
    have HF := Lib.hid hf; clear hf
    have HE := Lib.hid hE; clear hE
    by_cases hlt : j < L.length
    · obtain ⟨hjl, hrl⟩ := HLG.out j hlt
      obtain ⟨c5, c6⟩ := HR.out.ext HE.out (i + 1 + j) _ (List.getElem?_eq_getElem hjl)
      have hrow := HT.out.get hjl
      rw [show off + (i + 1 + j) * 2 = off + (i + 1) * 2 + j * 2 by omega] at c5 c6
      have hd : ((L.drop j).all fun r => okAt x y r s) = (okAt x y L[j] s && (L.drop (j + 1)).all fun r => okAt x y r s) := by
        rw [List.drop_eq_getElem_cons hlt]; rfl
      rw [hrl] at hd
      have HD := Lib.hid hd; clear hd hrl
      generalize l[i + 1 + j] = r at *
      have hbw := Nat.lt_of_lt_of_le hbl HE.out.size
      have hrd0 := hrow.1
      have hrd1 := hrow.2.1
      have hbb := btw_b x y r.1 hro HSO.out.1 ⟨hrd0, hrd1⟩
      have hll' := HLL.out
      go_wp2
      generalize hW : wr.alloc (Obj.cells #[Value.int IntKind.i64 r.fst, Value.int IntKind.i64 r.snd] 59) = W
      have hEW : Ext wr W := by subst hW; exact (Ext.refl _).alloc _
      have k1 := hEW.cell (HE.out.cell HC.out.1.1)
      have k2 := hEW.cell (HE.out.cell HC.out.1.2)
      have k3 := hEW.cell (HE.out.cell HC.out.2.1)
      have k4 := hEW.cell (HE.out.cell HC.out.2.2)
      have k5 : W.cell? ⟨wr.heap.size, 0, none⟩ = some (.int .i64 r.1) := by subst hW; simp
      have k6 : W.cell? ⟨wr.heap.size, 1, none⟩ = some (.int .i64 r.2) := by subst hW; simp
      have hEw := HE.out.trans hEW
      have hWs : wr.heap.size < W.heap.size := by subst hW; simp
      have HEW := Lib.hid hEw
      clear hW hEW hEw c5 c6
      have hbW : b < W.heap.size := Nat.lt_of_lt_of_le hbl HEW.out.size
      have n1 : (i : Int) < (l.length : Int) := by omega
      have n2 : (k : Int) < (l.length : Int) := by omega
      refine wp_region_Tt (R := Ext) 12 (fun w' => Ext (W) w') [(0, 0), (1, 0), (2, 0), (3, 0), (4, 0), (5, 0), (6, 0), (7, 0), (8, 0), (9, 0), (10, 0), (11, 1)] (by kernel_rfl) (by kernel_rfl) (fun _ _ h k => k.trans h) ((Ext.refl _).drew) ?_
      iterate 10
        first
          | (apply wpT_no
             focus (simp only [List.getElem?_toArray, List.getElem?_cons_zero, List.getElem?_cons_succ]; rfl)
             focus rfl
             focus (simp only [Act.put, List.setIfInBounds_toArray, List.set_cons_zero, List.set_cons_succ]; rfl))
          | (apply wpT_ex
             focus (simp only [List.getElem?_toArray, List.getElem?_cons_zero, List.getElem?_cons_succ]; rfl)
             focus rfl
             focus
               intro w1 hC Ψ hΨ
               have d1 := hC.cell k1
               have d2 := hC.cell k2
               have d3 := hC.cell k3
               have d4 := hC.cell k4
               have d5 := hC.cell k5
               have d6 := hC.cell k6
               go_simp; (try (go_bits; (try go_simp)))
               first
                 | exact hΨ _ (Ext.refl _)
             focus (simp only [Act.put, List.setIfInBounds_toArray, List.set_cons_zero, List.set_cons_succ]; rfl))
      iterate 1
        first
          | (apply wpT_no
             focus (simp only [List.getElem?_toArray, List.getElem?_cons_zero, List.getElem?_cons_succ]; rfl)
             focus rfl
             focus (simp only [Act.put, List.setIfInBounds_toArray, List.set_cons_zero, List.set_cons_succ]; rfl))
          | (apply wpT_ex
             focus (simp only [List.getElem?_toArray, List.getElem?_cons_zero, List.getElem?_cons_succ]; rfl)
             focus rfl
             focus
               intro w1 hC Ψ hΨ
               skip
               go_simp; (try (go_bits; (try go_simp)))
               first
                 | exact hΨ _ (Ext.refl _)
                 | (go_at_call 116; refine (between_c _ _ _ _ hro HSO.out.1 hrd0 hrd1 HSO.out.2).mono ?_; rintro e w2 ⟨rfl, hE2⟩; exact ⟨_, rfl, hΨ _ hE2⟩)
             focus (simp only [Act.put, List.setIfInBounds_toArray, List.set_cons_zero, List.set_cons_succ]; rfl))
      apply wpT_fr (fun v w => ∃ g, v = .pointer (some ⟨g, 0, none⟩) ∧ W.heap.size ≤ g ∧ Blk2 w g (.int .i64 0) (.int .i64 0))
      focus (simp only [List.getElem?_toArray, List.getElem?_cons_zero, List.getElem?_cons_succ]; rfl)
      focus rfl
      focus
        rintro v wa wb hab ⟨g, rfl, hg, hb⟩
        exact ⟨g, rfl, hg, hb.ext hab⟩
      focus
        intro w1 hC Ψ hΨ
        go_simp
        exact hΨ _ _ ((Ext.refl _).alloc _) ⟨_, rfl, hC.size, Blk2.new _ _ _ _⟩
      intro v0 a0' ha
      simp only [Act.put, List.setIfInBounds_toArray, List.set_cons_zero, List.set_cons_succ] at ha
      subst ha
      refine wpT_nil ?_
      intro w3 hC
      simp only [List.drop_succ_cons, List.drop_zero]
      obtain ⟨hC0, g, hv, hgW, hB⟩ := hC
      subst hv
      obtain ⟨b0, b1, b2, b3, b4⟩ := hB
      have k6' := hC0.cell k6
      have HC0 := Lib.hid hC0; clear hC0 k1 k2 k3 k4 k5 k6
      have hqb := btw_bd x y r.1 hro HSO.out.1 HSO.out.2 ⟨hrd0, hrd1⟩
      obtain ⟨q, hq⟩ : ∃ q, btw x y r.1 = q := ⟨_, rfl⟩
      rw [hq] at hqb ⊢
      obtain ⟨q1, q2, q3, q4⟩ := hqb
      have hr2 := hrow.2.2
      have hsd := mul_le_of (a := s) (b := q.2) (A := 1000000) (B := 100000) (by omega) (by omega) (by omega) (by omega)
      have hrd := mul_le_of (a := r.2) (b := q.2) (A := 1000000) (B := 100000) (by omega) (by omega) (by omega) (by omega)
      obtain ⟨s1, s2⟩ := hsd
      obtain ⟨s3, s4⟩ := hrd
      have hok : okAt x y r s = decide (((q.1 - r.2 * q.2).natAbs : Int) ≤ s * q.2) := by simp [okAt, dev, hq]
      rw [hok] at HD
      have s5 : -9223372036854775807 ≤ q.1 - r.2 * q.2 := by omega
      have s6 : q.1 - r.2 * q.2 ≤ 9223372036854775807 := by omega
      clear hok hbb hrow hq
      go_wp2
      generalize hW4 : (w3.setCell { block := g, off := 0 } (Value.int IntKind.i64 q.fst)).setCell { block := g, off := 1 } (Value.int IntKind.i64 q.snd) = W4
      have hB4 : Blk2 W4 g (.int .i64 q.1) (.int .i64 q.2) := by subst hW4; exact Blk2.put ⟨b0, b1, b2, b3, b4⟩ _ _
      have j1 := hB4.c0
      have j2 := hB4.c1
      have j3 : W4.cell? ⟨wr.heap.size, 1, none⟩ = some (.int .i64 r.2) := by subst hW4; exact put2_far k6' (by have := hWs; simp only; omega) _ _ _ _
      have hE4 : Ext w W4 := by subst hW4; exact (HEW.out.trans HC0.out).put2 (Nat.le_trans HEW.out.size hgW) _ _
      clear hB4
      have HE4 := Lib.hid hE4; clear hE4 hW4
      refine wp_region_T (R := Ext) (fun w' => Ext (W4) w') [(0, 0), (1, 0), (2, 0), (3, 0), (4, 0), (5, 0), (6, 0), (7, 0), (8, 0), (9, 0), (10, 0), (11, 0), (12, 0), (13, 0)] (by kernel_rfl) (by kernel_rfl) (fun _ _ h k => k.trans h) ((Ext.refl _).drew) ?_
      iterate 14
        first
          | (apply wpT_no
             focus (simp only [List.getElem?_toArray, List.getElem?_cons_zero, List.getElem?_cons_succ]; rfl)
             focus rfl
             focus (simp only [Act.put, List.setIfInBounds_toArray, List.set_cons_zero, List.set_cons_succ]; rfl))
          | (apply wpT_ex
             focus (simp only [List.getElem?_toArray, List.getElem?_cons_zero, List.getElem?_cons_succ]; rfl)
             focus rfl
             focus
               intro w1 hC Ψ hΨ
               have d1 := hC.cell j1
               have d2 := hC.cell j2
               have d3 := hC.cell j3
               go_simp; (try (go_bits; (try go_simp)))
               first
                 | exact hΨ _ (Ext.refl _)
                 | (go_at_call 99; refine (size_c _ _ (by assumption) (by assumption)).mono ?_; rintro e w2 ⟨rfl, rfl⟩; exact ⟨_, rfl, hΨ _ (Ext.refl _)⟩)
             focus (simp only [Act.put, List.setIfInBounds_toArray, List.set_cons_zero, List.set_cons_succ]; rfl))
      refine wpT_nil ?_
      intro w5 hC
      have HC5 := Lib.hid hC; clear hC
      by_cases hle : ((q.1 - r.2 * q.2).natAbs : Int) ≤ s * q.2
      · go_wp2
        go_roundw
        case rel => exact ⟨j + 1, by omega, by go_num, HE4.out.trans HC5.out, by rw [HF.out, HD.out]; simp [hle]⟩
        case measure => simp [intOf]; omega
      · have hz : spansS l i k s = false := by rw [HZ.out, HF.out, HD.out, decide_eq_false hle]; rfl
        have HZ2 := Lib.hid hz; clear hz
        go_wp2
        go_ret
        have hz := HZ2.out
        exact ⟨by rw [hz]; rfl, HE4.out.trans HC5.out⟩
    · go_wp2
      go_ret
      have hz : spansS l i k s = true := by rw [HZ.out, HF.out, List.drop_of_length_le (by omega)]; rfl
      exact ⟨by rw [hz]; rfl, HE.out⟩
end Go.Proofs.Ytgdcidbpadhkpaa
