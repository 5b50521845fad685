/- Contracts over the abstract machine: the reference's reader behind i lines. Conditions: none. -/
import Derived.Test.YtkbdnkjjklbddaaGreatDoorB14
set_option linter.unusedVariables false
set_option linter.unusedSimpArgs false
set_option maxRecDepth 100000
namespace Go.Proofs.YtkbdnkjjklbddaaGreatDoor.Am.M
open Go
theorem cutN_len : ∀ l : List UInt8, (cutN l).length ≤ l.length + 1
  | [] => Nat.le_refl _
  | b :: l => by
    have ih := cutN_len l
    show (if b = 10 then [] :: cutN l else hdL [b] (cutN l)).length ≤ _
    split
    · simp; omega
    · cases hq : cutN l with
      | nil => exact absurd hq (cutN_ne l)
      | cons y ys => rw [hq] at ih; simp [hdL] at ih ⊢; omega

def hX (t : List UInt8) (i q : Nat) : D := (hC t (min i 3)).getD q nilD
def elX (t : List UInt8) (m i : Nat) : List (List D) := esM t (min (i - 3) m)
def plX (t : List UInt8) (m i : Nat) : D := if i ≤ 3 + m then nilD else plD t (3 + m)
def flX (t : List UInt8) (m i : Nat) : List (List D) := fsJ t (4 + m) (i - (4 + m))
def atX (m i : Nat) : Int := if i < 3 then (i : Int) else if i ≤ 3 + m then 3 else 4
def lB (t : List UInt8) (m i : Nat) : Bool := if i < 3 then rdB (lnK t i) (hwd i) (hos i).length else if i < 3 + m then true else if i = 3 + m then (if nO (lnK t i) = true then (bif decide (wd0 (lnK t i) = pulS) then decide ((0 : Int) < ((nL (lnK t i)).length : Int)) else false) else false) else (flP (lnK t i)).2
def pA (t : List UInt8) (m i : Nat) : D := if i < 3 + m then nilD else if i = 3 + m then (if nO (lnK t i) = true then .sl 1 ((nL (lnK t i)).map iC) else nilD) else plD t (3 + m)
def aA (t : List UInt8) (m i : Nat) : Int := if i < 3 then (if nO (lnK t i) = true then (i : Int) + 1 else i) else if i < 3 + m then 3 else if i = 3 + m then (if nO (lnK t i) = true then 4 else 3) else 4
theorem rdB_nw {s wd : ByteArray} {n : Nat} (hn : 0 < n) : rdB s wd n = true ↔ nO s = true ∧ wd0 s = wd ∧ (nL s).length = n := by
  rw [rdB_iff hn]
  constructor
  · rintro ⟨⟨h1, h2⟩, h3⟩; exact ⟨h1, h2, by unfold nL; omega⟩
  · rintro ⟨h1, h2, h3⟩; exact ⟨⟨h1, h2⟩, by unfold nL at h3; omega⟩
theorem nbR_w {s wd : ByteArray} (h : wd0 s = wd) : nbR s wd = (nL s, nO s) := nbR_of h
theorem rdB_f {b : Bool} (h : ¬ b = true) : b = false := by simpa using h
theorem getD13 (c0 c1 c2 c3 c4 c5 c6 c7 c8 c9 c10 c11 c12 : D) (l : List Int) :
    wrC [c0, c1, c2, c3, c4, c5, c6, c7, c8, c9, c10, c11, c12] [9, 10] l 2 = [c0, c1, c2, c3, c4, c5, c6, c7, c8, .v (.int .i64 (l.getD 0 0)), .v (.int .i64 (l.getD 1 0)), c11, c12] ∧
    wrC [c0, c1, c2, c3, c4, c5, c6, c7, c8, c9, c10, c11, c12] [1, 2, 3, 4] l 4 = [c0, .v (.int .i64 (l.getD 0 0)), .v (.int .i64 (l.getD 1 0)), .v (.int .i64 (l.getD 2 0)), .v (.int .i64 (l.getD 3 0)), c5, c6, c7, c8, c9, c10, c11, c12] ∧
    wrC [c0, c1, c2, c3, c4, c5, c6, c7, c8, c9, c10, c11, c12] [5, 6, 7, 8] l 4 = [c0, c1, c2, c3, c4, .v (.int .i64 (l.getD 0 0)), .v (.int .i64 (l.getD 1 0)), .v (.int .i64 (l.getD 2 0)), .v (.int .i64 (l.getD 3 0)), c9, c10, c11, c12] := by
  refine ⟨?_, ?_, ?_⟩ <;> simp [wrC, setCs]

theorem rline_h0 (b0 : Nat) (t : List UInt8) (m : Nat) (hs : (lnK t 0).size ≤ 100000) (hm : m ≤ 100000) : PCSX Tryz.prog NGB GB b0 47 [.ref 0 0, .d (.v (.string (lnK t 0)))] [.tbox [.rs 1, .d (hX t (0) 1), .d (hX t (0) 2), .d (hX t (0) 3), .d (hX t (0) 4), .d (hX t (0) 5), .d (hX t (0) 6), .d (hX t (0) 7), .d (hX t (0) 8), .d (hX t (0) 9), .d (hX t (0) 10), .d (plX t m (0)), .rs 2, .d (.v (.int .i64 (atX m (0))))], .row 37 2 (elX t m (0)), .row 39 8 (flX t m (0))] (.d (.v (.bool (lB t m 0)))) [.tbox [.rs 1, .d (hX t (0 + 1) 1), .d (hX t (0 + 1) 2), .d (hX t (0 + 1) 3), .d (hX t (0 + 1) 4), .d (hX t (0 + 1) 5), .d (hX t (0 + 1) 6), .d (hX t (0 + 1) 7), .d (hX t (0 + 1) 8), .d (hX t (0 + 1) 9), .d (hX t (0 + 1) 10), .d (pA t m 0), .rs 2, .d (.v (.int .i64 (aA t m 0)))], .row 37 2 (elX t m (0 + 1)), .row 39 8 (flX t m (0 + 1))] := by
  have he : (elX t m 0).length ≤ 100000 := by unfold elX esM; rw [List.length_map, List.length_range]; omega
  have hf : (flX t m 0).length ≤ 100000 := by unfold flX fsJ; rw [List.length_map, List.length_range]; omega
  have ea : atX m 0 = 0 := rfl
  have ep : plX t m 0 = nilD := by unfold plX; rw [if_pos (by omega)]
  have epA : pA t m 0 = nilD := by unfold pA; rw [if_pos (by omega)]
  have ee : elX t m (0 + 1) = elX t m 0 := by unfold elX; rw [show min (0 + 1 - 3) m = min (0 - 3) m by omega]
  have ef : flX t m (0 + 1) = flX t m 0 := by unfold flX; rw [show 0 + 1 - (4 + m) = 0 - (4 + m) by omega]
  have hlB : lB t m 0 = rdB (lnK t 0) timS 2 := rfl
  obtain ⟨c0, c1, c2, c3, c4, c5, c6, c7, c8, c9, c10, c11, c12, e13⟩ := list13 (hC_len t 0)
  have hC1 : hC t (0 + 1) = rdC (hC t 0) (hos 0) (lnK t 0) (hwd 0) := rfl
  rw [ea]
  by_cases hn : nO (lnK t 0) = true
  · by_cases hw : wd0 (lnK t 0) = timS ∧ (nL (lnK t 0)).length = 2
    · have hb : rdB (lnK t 0) timS 2 = true := (rdB_nw (by decide)).2 ⟨hn, hw.1, hw.2⟩
      have e0 : (nbR (lnK t 0) (hwd 0)).1 = nL (lnK t 0) := congrArg Prod.fst (nbR_w hw.1)
      have e15 : hC t (0 + 1) = wrC (hC t 0) (hos 0) (nbR (lnK t 0) (hwd 0)).1 (hos 0).length := hC1.trans (if_pos hb)
      rw [e0, e13] at e15
      have e14 := e15.trans (getD13 c0 c1 c2 c3 c4 c5 c6 c7 c8 c9 c10 c11 c12 (nL (lnK t 0))).1
      refine (lineT0_p b0 (lnK t 0) hs (hX t 0 1) (hX t 0 2) (hX t 0 3) (hX t 0 4) (hX t 0 5) (hX t 0 6) (hX t 0 7) (hX t 0 8) (hX t 0 9) (hX t 0 10) (plX t m 0) (elX t m 0) (flX t m 0) he hf hn hw.1 hw.2).eqs (by rw [hlB, hb]) ?_
      rw [ee, ef, epA, ep, show aA t m 0 = (0 : Int) + 1 from if_pos hn]
      unfold hX
      rw [show min (0 + 1) 3 = 0 + 1 from rfl, show min 0 3 = 0 from rfl, e14, e13]
      rfl
    · have hb : rdB (lnK t 0) timS 2 = false := rdB_f fun q => by
        obtain ⟨q1, q2, q3⟩ := (rdB_nw (by decide)).1 q
        exact hw ⟨q2, q3⟩
      have e14 : hC t (0 + 1) = hC t 0 := hC1.trans (if_neg (by rw [show rdB (lnK t 0) (hwd 0) (hos 0).length = false from hb]; decide))
      refine (lineF_p b0 (lnK t 0) hs (hX t 0 1) (hX t 0 2) (hX t 0 3) (hX t 0 4) (hX t 0 5) (hX t 0 6) (hX t 0 7) (hX t 0 8) (hX t 0 9) (hX t 0 10) (plX t m 0) (elX t m 0) (flX t m 0) he hf 0 (by decide) hn hw).eqs (by rw [hlB, hb]) ?_
      rw [ee, ef, epA, ep, show aA t m 0 = (0 : Int) + 1 from if_pos hn]
      unfold hX
      rw [show min (0 + 1) 3 = 0 + 1 from rfl, show min 0 3 = 0 from rfl, e14]
      rfl
  · have hb : rdB (lnK t 0) timS 2 = false := rdB_f fun q => hn ((rdB_nw (by decide)).1 q).1
    have e14 : hC t (0 + 1) = hC t 0 := hC1.trans (if_neg (by rw [show rdB (lnK t 0) (hwd 0) (hos 0).length = false from hb]; decide))
    refine (lineN_p b0 (lnK t 0) hs (hX t 0 1) (hX t 0 2) (hX t 0 3) (hX t 0 4) (hX t 0 5) (hX t 0 6) (hX t 0 7) (hX t 0 8) (hX t 0 9) (hX t 0 10) (plX t m 0) (elX t m 0) (flX t m 0) he hf 0 (by decide) (rdB_f hn)).eqs (by rw [hlB, hb]) ?_
    rw [ee, ef, epA, ep, show aA t m 0 = (0 : Int) from if_neg hn]
    unfold hX
    rw [show min (0 + 1) 3 = 0 + 1 from rfl, show min 0 3 = 0 from rfl, e14]

theorem rline_h1 (b0 : Nat) (t : List UInt8) (m : Nat) (hs : (lnK t 1).size ≤ 100000) (hm : m ≤ 100000) : PCSX Tryz.prog NGB GB b0 47 [.ref 0 0, .d (.v (.string (lnK t 1)))] [.tbox [.rs 1, .d (hX t (1) 1), .d (hX t (1) 2), .d (hX t (1) 3), .d (hX t (1) 4), .d (hX t (1) 5), .d (hX t (1) 6), .d (hX t (1) 7), .d (hX t (1) 8), .d (hX t (1) 9), .d (hX t (1) 10), .d (plX t m (1)), .rs 2, .d (.v (.int .i64 (atX m (1))))], .row 37 2 (elX t m (1)), .row 39 8 (flX t m (1))] (.d (.v (.bool (lB t m 1)))) [.tbox [.rs 1, .d (hX t (1 + 1) 1), .d (hX t (1 + 1) 2), .d (hX t (1 + 1) 3), .d (hX t (1 + 1) 4), .d (hX t (1 + 1) 5), .d (hX t (1 + 1) 6), .d (hX t (1 + 1) 7), .d (hX t (1 + 1) 8), .d (hX t (1 + 1) 9), .d (hX t (1 + 1) 10), .d (pA t m 1), .rs 2, .d (.v (.int .i64 (aA t m 1)))], .row 37 2 (elX t m (1 + 1)), .row 39 8 (flX t m (1 + 1))] := by
  have he : (elX t m 1).length ≤ 100000 := by unfold elX esM; rw [List.length_map, List.length_range]; omega
  have hf : (flX t m 1).length ≤ 100000 := by unfold flX fsJ; rw [List.length_map, List.length_range]; omega
  have ea : atX m 1 = 1 := rfl
  have ep : plX t m 1 = nilD := by unfold plX; rw [if_pos (by omega)]
  have epA : pA t m 1 = nilD := by unfold pA; rw [if_pos (by omega)]
  have ee : elX t m (1 + 1) = elX t m 1 := by unfold elX; rw [show min (1 + 1 - 3) m = min (1 - 3) m by omega]
  have ef : flX t m (1 + 1) = flX t m 1 := by unfold flX; rw [show 1 + 1 - (4 + m) = 1 - (4 + m) by omega]
  have hlB : lB t m 1 = rdB (lnK t 1) outS 4 := rfl
  obtain ⟨c0, c1, c2, c3, c4, c5, c6, c7, c8, c9, c10, c11, c12, e13⟩ := list13 (hC_len t 1)
  have hC1 : hC t (1 + 1) = rdC (hC t 1) (hos 1) (lnK t 1) (hwd 1) := rfl
  rw [ea]
  by_cases hn : nO (lnK t 1) = true
  · by_cases hw : wd0 (lnK t 1) = outS ∧ (nL (lnK t 1)).length = 4
    · have hb : rdB (lnK t 1) outS 4 = true := (rdB_nw (by decide)).2 ⟨hn, hw.1, hw.2⟩
      have e0 : (nbR (lnK t 1) (hwd 1)).1 = nL (lnK t 1) := congrArg Prod.fst (nbR_w hw.1)
      have e15 : hC t (1 + 1) = wrC (hC t 1) (hos 1) (nbR (lnK t 1) (hwd 1)).1 (hos 1).length := hC1.trans (if_pos hb)
      rw [e0, e13] at e15
      have e14 := e15.trans (getD13 c0 c1 c2 c3 c4 c5 c6 c7 c8 c9 c10 c11 c12 (nL (lnK t 1))).2.1
      refine (lineT1_p b0 (lnK t 1) hs (hX t 1 1) (hX t 1 2) (hX t 1 3) (hX t 1 4) (hX t 1 5) (hX t 1 6) (hX t 1 7) (hX t 1 8) (hX t 1 9) (hX t 1 10) (plX t m 1) (elX t m 1) (flX t m 1) he hf hn hw.1 hw.2).eqs (by rw [hlB, hb]) ?_
      rw [ee, ef, epA, ep, show aA t m 1 = (1 : Int) + 1 from if_pos hn]
      unfold hX
      rw [show min (1 + 1) 3 = 1 + 1 from rfl, show min 1 3 = 1 from rfl, e14, e13]
      rfl
    · have hb : rdB (lnK t 1) outS 4 = false := rdB_f fun q => by
        obtain ⟨q1, q2, q3⟩ := (rdB_nw (by decide)).1 q
        exact hw ⟨q2, q3⟩
      have e14 : hC t (1 + 1) = hC t 1 := hC1.trans (if_neg (by rw [show rdB (lnK t 1) (hwd 1) (hos 1).length = false from hb]; decide))
      refine (lineF_p b0 (lnK t 1) hs (hX t 1 1) (hX t 1 2) (hX t 1 3) (hX t 1 4) (hX t 1 5) (hX t 1 6) (hX t 1 7) (hX t 1 8) (hX t 1 9) (hX t 1 10) (plX t m 1) (elX t m 1) (flX t m 1) he hf 1 (by decide) hn hw).eqs (by rw [hlB, hb]) ?_
      rw [ee, ef, epA, ep, show aA t m 1 = (1 : Int) + 1 from if_pos hn]
      unfold hX
      rw [show min (1 + 1) 3 = 1 + 1 from rfl, show min 1 3 = 1 from rfl, e14]
      rfl
  · have hb : rdB (lnK t 1) outS 4 = false := rdB_f fun q => hn ((rdB_nw (by decide)).1 q).1
    have e14 : hC t (1 + 1) = hC t 1 := hC1.trans (if_neg (by rw [show rdB (lnK t 1) (hwd 1) (hos 1).length = false from hb]; decide))
    refine (lineN_p b0 (lnK t 1) hs (hX t 1 1) (hX t 1 2) (hX t 1 3) (hX t 1 4) (hX t 1 5) (hX t 1 6) (hX t 1 7) (hX t 1 8) (hX t 1 9) (hX t 1 10) (plX t m 1) (elX t m 1) (flX t m 1) he hf 1 (by decide) (rdB_f hn)).eqs (by rw [hlB, hb]) ?_
    rw [ee, ef, epA, ep, show aA t m 1 = (1 : Int) from if_neg hn]
    unfold hX
    rw [show min (1 + 1) 3 = 1 + 1 from rfl, show min 1 3 = 1 from rfl, e14]

theorem rline_h2 (b0 : Nat) (t : List UInt8) (m : Nat) (hs : (lnK t 2).size ≤ 100000) (hm : m ≤ 100000) : PCSX Tryz.prog NGB GB b0 47 [.ref 0 0, .d (.v (.string (lnK t 2)))] [.tbox [.rs 1, .d (hX t (2) 1), .d (hX t (2) 2), .d (hX t (2) 3), .d (hX t (2) 4), .d (hX t (2) 5), .d (hX t (2) 6), .d (hX t (2) 7), .d (hX t (2) 8), .d (hX t (2) 9), .d (hX t (2) 10), .d (plX t m (2)), .rs 2, .d (.v (.int .i64 (atX m (2))))], .row 37 2 (elX t m (2)), .row 39 8 (flX t m (2))] (.d (.v (.bool (lB t m 2)))) [.tbox [.rs 1, .d (hX t (2 + 1) 1), .d (hX t (2 + 1) 2), .d (hX t (2 + 1) 3), .d (hX t (2 + 1) 4), .d (hX t (2 + 1) 5), .d (hX t (2 + 1) 6), .d (hX t (2 + 1) 7), .d (hX t (2 + 1) 8), .d (hX t (2 + 1) 9), .d (hX t (2 + 1) 10), .d (pA t m 2), .rs 2, .d (.v (.int .i64 (aA t m 2)))], .row 37 2 (elX t m (2 + 1)), .row 39 8 (flX t m (2 + 1))] := by
  have he : (elX t m 2).length ≤ 100000 := by unfold elX esM; rw [List.length_map, List.length_range]; omega
  have hf : (flX t m 2).length ≤ 100000 := by unfold flX fsJ; rw [List.length_map, List.length_range]; omega
  have ea : atX m 2 = 2 := rfl
  have ep : plX t m 2 = nilD := by unfold plX; rw [if_pos (by omega)]
  have epA : pA t m 2 = nilD := by unfold pA; rw [if_pos (by omega)]
  have ee : elX t m (2 + 1) = elX t m 2 := by unfold elX; rw [show min (2 + 1 - 3) m = min (2 - 3) m by omega]
  have ef : flX t m (2 + 1) = flX t m 2 := by unfold flX; rw [show 2 + 1 - (4 + m) = 2 - (4 + m) by omega]
  have hlB : lB t m 2 = rdB (lnK t 2) bacS 4 := rfl
  obtain ⟨c0, c1, c2, c3, c4, c5, c6, c7, c8, c9, c10, c11, c12, e13⟩ := list13 (hC_len t 2)
  have hC1 : hC t (2 + 1) = rdC (hC t 2) (hos 2) (lnK t 2) (hwd 2) := rfl
  rw [ea]
  by_cases hn : nO (lnK t 2) = true
  · by_cases hw : wd0 (lnK t 2) = bacS ∧ (nL (lnK t 2)).length = 4
    · have hb : rdB (lnK t 2) bacS 4 = true := (rdB_nw (by decide)).2 ⟨hn, hw.1, hw.2⟩
      have e0 : (nbR (lnK t 2) (hwd 2)).1 = nL (lnK t 2) := congrArg Prod.fst (nbR_w hw.1)
      have e15 : hC t (2 + 1) = wrC (hC t 2) (hos 2) (nbR (lnK t 2) (hwd 2)).1 (hos 2).length := hC1.trans (if_pos hb)
      rw [e0, e13] at e15
      have e14 := e15.trans (getD13 c0 c1 c2 c3 c4 c5 c6 c7 c8 c9 c10 c11 c12 (nL (lnK t 2))).2.2
      refine (lineT2_p b0 (lnK t 2) hs (hX t 2 1) (hX t 2 2) (hX t 2 3) (hX t 2 4) (hX t 2 5) (hX t 2 6) (hX t 2 7) (hX t 2 8) (hX t 2 9) (hX t 2 10) (plX t m 2) (elX t m 2) (flX t m 2) he hf hn hw.1 hw.2).eqs (by rw [hlB, hb]) ?_
      rw [ee, ef, epA, ep, show aA t m 2 = (2 : Int) + 1 from if_pos hn]
      unfold hX
      rw [show min (2 + 1) 3 = 2 + 1 from rfl, show min 2 3 = 2 from rfl, e14, e13]
      rfl
    · have hb : rdB (lnK t 2) bacS 4 = false := rdB_f fun q => by
        obtain ⟨q1, q2, q3⟩ := (rdB_nw (by decide)).1 q
        exact hw ⟨q2, q3⟩
      have e14 : hC t (2 + 1) = hC t 2 := hC1.trans (if_neg (by rw [show rdB (lnK t 2) (hwd 2) (hos 2).length = false from hb]; decide))
      refine (lineF_p b0 (lnK t 2) hs (hX t 2 1) (hX t 2 2) (hX t 2 3) (hX t 2 4) (hX t 2 5) (hX t 2 6) (hX t 2 7) (hX t 2 8) (hX t 2 9) (hX t 2 10) (plX t m 2) (elX t m 2) (flX t m 2) he hf 2 (by decide) hn hw).eqs (by rw [hlB, hb]) ?_
      rw [ee, ef, epA, ep, show aA t m 2 = (2 : Int) + 1 from if_pos hn]
      unfold hX
      rw [show min (2 + 1) 3 = 2 + 1 from rfl, show min 2 3 = 2 from rfl, e14]
      rfl
  · have hb : rdB (lnK t 2) bacS 4 = false := rdB_f fun q => hn ((rdB_nw (by decide)).1 q).1
    have e14 : hC t (2 + 1) = hC t 2 := hC1.trans (if_neg (by rw [show rdB (lnK t 2) (hwd 2) (hos 2).length = false from hb]; decide))
    refine (lineN_p b0 (lnK t 2) hs (hX t 2 1) (hX t 2 2) (hX t 2 3) (hX t 2 4) (hX t 2 5) (hX t 2 6) (hX t 2 7) (hX t 2 8) (hX t 2 9) (hX t 2 10) (plX t m 2) (elX t m 2) (flX t m 2) he hf 2 (by decide) (rdB_f hn)).eqs (by rw [hlB, hb]) ?_
    rw [ee, ef, epA, ep, show aA t m 2 = (2 : Int) from if_neg hn]
    unfold hX
    rw [show min (2 + 1) 3 = 2 + 1 from rfl, show min 2 3 = 2 from rfl, e14]

theorem rline_e (b0 : Nat) (t : List UInt8) (m i : Nat) (hs : (lnK t i).size ≤ 100000) (hm : m ≤ 100000) (hi3 : i ≤ 100000) (h3 : 3 ≤ i) (hi : i < 3 + m) (hb : eB t i = true) : PCSX Tryz.prog NGB GB b0 47 [.ref 0 0, .d (.v (.string (lnK t i)))] [.tbox [.rs 1, .d (hX t (i) 1), .d (hX t (i) 2), .d (hX t (i) 3), .d (hX t (i) 4), .d (hX t (i) 5), .d (hX t (i) 6), .d (hX t (i) 7), .d (hX t (i) 8), .d (hX t (i) 9), .d (hX t (i) 10), .d (plX t m (i)), .rs 2, .d (.v (.int .i64 (atX m (i))))], .row 37 2 (elX t m (i)), .row 39 8 (flX t m (i))] (.d (.v (.bool (lB t m i)))) [.tbox [.rs 1, .d (hX t (i + 1) 1), .d (hX t (i + 1) 2), .d (hX t (i + 1) 3), .d (hX t (i + 1) 4), .d (hX t (i + 1) 5), .d (hX t (i + 1) 6), .d (hX t (i + 1) 7), .d (hX t (i + 1) 8), .d (hX t (i + 1) 9), .d (hX t (i + 1) 10), .d (pA t m i), .rs 2, .d (.v (.int .i64 (aA t m i)))], .row 37 2 (elX t m (i + 1)), .row 39 8 (flX t m (i + 1))] := by
  have he : (elX t m i).length ≤ 100000 := by unfold elX esM; rw [List.length_map, List.length_range]; omega
  have hf : (flX t m i).length ≤ 100000 := by unfold flX fsJ; rw [List.length_map, List.length_range]; omega
  have e3 : min (i + 1) 3 = min i 3 := by omega
  unfold eB at hb
  rw [Bool.and_eq_true] at hb
  obtain ⟨hn, hw, hl⟩ := (rdB_nw (by decide)).1 hb.2
  have ea : atX m i = 3 := by unfold atX; rw [if_neg (by omega), if_pos (by omega)]
  have ep : plX t m i = nilD := by unfold plX; rw [if_pos (by omega)]
  have epA : pA t m i = nilD := by unfold pA; rw [if_pos (by omega)]
  have eaA : aA t m i = 3 := by unfold aA; rw [if_neg (by omega), if_pos (by omega)]
  have elb : lB t m i = true := by unfold lB; rw [if_neg (by omega), if_pos (by omega)]
  have ef : flX t m (i + 1) = flX t m i := by unfold flX; rw [show i + 1 - (4 + m) = i - (4 + m) by omega]
  have ee : elX t m (i + 1) = elX t m i ++ [shC ((nL (lnK t i)).getD 0 0, (nL (lnK t i)).getD 1 0)] := by
    unfold elX
    rw [show min (i + 1 - 3) m = min (i - 3) m + 1 by omega, esM_succ, show 3 + min (i - 3) m = i by omega]
    unfold elK
    rw [nbR_w hw]
  rw [ea]
  refine (line3E_p b0 (lnK t i) hs (hX t i 1) (hX t i 2) (hX t i 3) (hX t i 4) (hX t i 5) (hX t i 6) (hX t i 7) (hX t i 8) (hX t i 9) (hX t i 10) (plX t m i) (elX t m i) (flX t m i) he hf hn hw hl).eqs (by rw [elb]) ?_
  rw [ee, ef, epA, ep, eaA]
  unfold hX
  rw [e3]
theorem rline_p (b0 : Nat) (t : List UInt8) (m i : Nat) (hs : (lnK t i).size ≤ 100000) (hm : m ≤ 100000) (hi3 : i ≤ 100000) (hi : i = 3 + m) (ho : okK t i = true) (hb : eB t i = false) : PCSX Tryz.prog NGB GB b0 47 [.ref 0 0, .d (.v (.string (lnK t i)))] [.tbox [.rs 1, .d (hX t (i) 1), .d (hX t (i) 2), .d (hX t (i) 3), .d (hX t (i) 4), .d (hX t (i) 5), .d (hX t (i) 6), .d (hX t (i) 7), .d (hX t (i) 8), .d (hX t (i) 9), .d (hX t (i) 10), .d (plX t m (i)), .rs 2, .d (.v (.int .i64 (atX m (i))))], .row 37 2 (elX t m (i)), .row 39 8 (flX t m (i))] (.d (.v (.bool (lB t m i)))) [.tbox [.rs 1, .d (hX t (i + 1) 1), .d (hX t (i + 1) 2), .d (hX t (i + 1) 3), .d (hX t (i + 1) 4), .d (hX t (i + 1) 5), .d (hX t (i + 1) 6), .d (hX t (i + 1) 7), .d (hX t (i + 1) 8), .d (hX t (i + 1) 9), .d (hX t (i + 1) 10), .d (pA t m i), .rs 2, .d (.v (.int .i64 (aA t m i)))], .row 37 2 (elX t m (i + 1)), .row 39 8 (flX t m (i + 1))] := by
  have he : (elX t m i).length ≤ 100000 := by unfold elX esM; rw [List.length_map, List.length_range]; omega
  have hf : (flX t m i).length ≤ 100000 := by unfold flX fsJ; rw [List.length_map, List.length_range]; omega
  have e3 : min (i + 1) 3 = min i 3 := by omega
  have hnw : nO (lnK t i) = true → ¬ (wd0 (lnK t i) = eleS ∧ (nL (lnK t i)).length = 2) := fun hn hw => by
    have := (rdB_nw (by decide)).2 ⟨hn, hw.1, hw.2⟩
    unfold eB at hb
    rw [ho, this] at hb; cases hb
  have ea : atX m i = 3 := by unfold atX; rw [if_neg (by omega), if_pos (by omega)]
  have ep : plX t m i = nilD := by unfold plX; rw [if_pos (by omega)]
  have ef : flX t m (i + 1) = flX t m i := by unfold flX; rw [show i + 1 - (4 + m) = i - (4 + m) by omega]
  have ee : elX t m (i + 1) = elX t m i := by unfold elX; rw [show min (i + 1 - 3) m = min (i - 3) m by omega]
  rw [ea]
  by_cases hn : nO (lnK t i) = true
  · have epA : pA t m i = .sl 1 ((nL (lnK t i)).map iC) := by unfold pA; rw [if_neg (by omega), if_pos hi, if_pos hn]
    have eaA : aA t m i = 4 := by unfold aA; rw [if_neg (by omega), if_neg (by omega), if_pos hi, if_pos hn]
    have elb : lB t m i = _ := (if_neg (by omega)).trans ((if_neg (by omega)).trans ((if_pos hi).trans (if_pos hn)))
    refine (line3P_p b0 (lnK t i) hs (hX t i 1) (hX t i 2) (hX t i 3) (hX t i 4) (hX t i 5) (hX t i 6) (hX t i 7) (hX t i 8) (hX t i 9) (hX t i 10) (plX t m i) (elX t m i) (flX t m i) he hf hn (hnw hn)).eqs (by rw [elb]) ?_
    rw [ee, ef, epA, eaA]
    unfold hX
    rw [e3]
  · have epA : pA t m i = nilD := by unfold pA; rw [if_neg (by omega), if_pos hi, if_neg hn]
    have eaA : aA t m i = 3 := by unfold aA; rw [if_neg (by omega), if_neg (by omega), if_pos hi, if_neg hn]
    have elb : lB t m i = false := (if_neg (by omega)).trans ((if_neg (by omega)).trans ((if_pos hi).trans (if_neg hn)))
    refine (lineN_p b0 (lnK t i) hs (hX t i 1) (hX t i 2) (hX t i 3) (hX t i 4) (hX t i 5) (hX t i 6) (hX t i 7) (hX t i 8) (hX t i 9) (hX t i 10) (plX t m i) (elX t m i) (flX t m i) he hf 3 (by decide) (rdB_f hn)).eqs (by rw [elb]) ?_
    rw [ee, ef, epA, ep, eaA]
    unfold hX
    rw [e3]
theorem rline_f (b0 : Nat) (t : List UInt8) (m i : Nat) (hs : (lnK t i).size ≤ 100000) (hm : m ≤ 100000) (hi3 : i ≤ 100000) (hi : 3 + m < i) : PCSX Tryz.prog NGB GB b0 47 [.ref 0 0, .d (.v (.string (lnK t i)))] [.tbox [.rs 1, .d (hX t (i) 1), .d (hX t (i) 2), .d (hX t (i) 3), .d (hX t (i) 4), .d (hX t (i) 5), .d (hX t (i) 6), .d (hX t (i) 7), .d (hX t (i) 8), .d (hX t (i) 9), .d (hX t (i) 10), .d (plX t m (i)), .rs 2, .d (.v (.int .i64 (atX m (i))))], .row 37 2 (elX t m (i)), .row 39 8 (flX t m (i))] (.d (.v (.bool (lB t m i)))) [.tbox [.rs 1, .d (hX t (i + 1) 1), .d (hX t (i + 1) 2), .d (hX t (i + 1) 3), .d (hX t (i + 1) 4), .d (hX t (i + 1) 5), .d (hX t (i + 1) 6), .d (hX t (i + 1) 7), .d (hX t (i + 1) 8), .d (hX t (i + 1) 9), .d (hX t (i + 1) 10), .d (pA t m i), .rs 2, .d (.v (.int .i64 (aA t m i)))], .row 37 2 (elX t m (i + 1)), .row 39 8 (flX t m (i + 1))] := by
  have he : (elX t m i).length ≤ 100000 := by unfold elX esM; rw [List.length_map, List.length_range]; omega
  have hf : (flX t m i).length ≤ 100000 := by unfold flX fsJ; rw [List.length_map, List.length_range]; omega
  have e3 : min (i + 1) 3 = min i 3 := by omega
  have ea : atX m i = 4 := by unfold atX; rw [if_neg (by omega), if_neg (by omega)]
  have ep : plX t m i = plD t (3 + m) := by unfold plX; rw [if_neg (by omega)]
  have epA : pA t m i = plD t (3 + m) := by unfold pA; rw [if_neg (by omega), if_neg (by omega)]
  have eaA : aA t m i = 4 := by unfold aA; rw [if_neg (by omega), if_neg (by omega), if_neg (by omega)]
  have elb : lB t m i = (flP (lnK t i)).2 := (if_neg (by omega)).trans ((if_neg (by omega)).trans (if_neg (by omega)))
  have ee : elX t m (i + 1) = elX t m i := by unfold elX; rw [show min (i + 1 - 3) m = min (i - 3) m by omega]
  have ef : flX t m (i + 1) = flX t m i ++ [flwC (flP (lnK t i)).1] := by
    unfold flX
    rw [show i + 1 - (4 + m) = i - (4 + m) + 1 by omega, fsJ_succ, show 4 + m + (i - (4 + m)) = i by omega]
  rw [ea]
  refine (line4_p b0 (lnK t i) hs (hX t i 1) (hX t i 2) (hX t i 3) (hX t i 4) (hX t i 5) (hX t i 6) (hX t i 7) (hX t i 8) (hX t i 9) (hX t i 10) (plX t m i) (elX t m i) (flX t m i) he hf).eqs (by rw [elb]) ?_
  rw [ee, ef, epA, ep, eaA]
  unfold hX
  rw [e3]
theorem rline_all (b0 : Nat) (t : List UInt8) (m i : Nat) (hs : (lnK t i).size ≤ 100000) (hm : m ≤ 100000) (hi3 : i ≤ 100000) (ho : okK t i = true) (hm1 : ∀ q, q < m → eB t (3 + q) = true) (hm2 : eB t (3 + m) = false) : PCSX Tryz.prog NGB GB b0 47 [.ref 0 0, .d (.v (.string (lnK t i)))] [.tbox [.rs 1, .d (hX t (i) 1), .d (hX t (i) 2), .d (hX t (i) 3), .d (hX t (i) 4), .d (hX t (i) 5), .d (hX t (i) 6), .d (hX t (i) 7), .d (hX t (i) 8), .d (hX t (i) 9), .d (hX t (i) 10), .d (plX t m (i)), .rs 2, .d (.v (.int .i64 (atX m (i))))], .row 37 2 (elX t m (i)), .row 39 8 (flX t m (i))] (.d (.v (.bool (lB t m i)))) [.tbox [.rs 1, .d (hX t (i + 1) 1), .d (hX t (i + 1) 2), .d (hX t (i + 1) 3), .d (hX t (i + 1) 4), .d (hX t (i + 1) 5), .d (hX t (i + 1) 6), .d (hX t (i + 1) 7), .d (hX t (i + 1) 8), .d (hX t (i + 1) 9), .d (hX t (i + 1) 10), .d (pA t m i), .rs 2, .d (.v (.int .i64 (aA t m i)))], .row 37 2 (elX t m (i + 1)), .row 39 8 (flX t m (i + 1))] := by
  rcases Nat.lt_or_ge i 3 with h | h
  · match i, h, hs with
    | 0, _, hs => exact rline_h0 b0 t m hs hm
    | 1, _, hs => exact rline_h1 b0 t m hs hm
    | 2, _, hs => exact rline_h2 b0 t m hs hm
  · rcases Nat.lt_trichotomy i (3 + m) with h2 | h2 | h2
    · exact rline_e b0 t m i hs hm hi3 h h2 (by have := hm1 (i - 3) (by omega); rwa [show 3 + (i - 3) = i by omega] at this)
    · exact rline_p b0 t m i hs hm hi3 h2 ho (by rw [h2]; exact hm2)
    · exact rline_f b0 t m i hs hm hi3 h2
theorem rline_next {t : List UInt8} {m i : Nat} (h : lB t m i = true) : pA t m i = plX t m (i + 1) ∧ aA t m i = atX m (i + 1) := by
  unfold lB at h
  split at h
  · rename_i h3
    have hn : nO (lnK t i) = true := ((rdB_nw (by match i, h3 with | 0, _ => decide | 1, _ => decide | 2, _ => decide)).1 h).1
    refine ⟨?_, ?_⟩
    · unfold pA plX; rw [if_pos (by omega), if_pos (by omega)]
    · unfold aA atX
      rw [if_pos h3, if_pos hn]
      by_cases h4 : i + 1 < 3
      · rw [if_pos h4]; rfl
      · rw [if_neg h4, if_pos (by omega)]; omega
  · rename_i h3
    split at h
    · rename_i h4
      refine ⟨?_, ?_⟩
      · unfold pA plX; rw [if_pos (by omega), if_pos (by omega)]
      · unfold aA atX; rw [if_neg h3, if_pos h4, if_neg (by omega), if_pos (by omega)]
    · rename_i h4
      split at h
      · rename_i h5
        split at h
        · rename_i hn
          have hw : wd0 (lnK t i) = pulS := by
            cases hq : decide (wd0 (lnK t i) = pulS) with
            | true => exact of_decide_eq_true hq
            | false => rw [hq] at h; cases h
          refine ⟨?_, ?_⟩
          · unfold pA plX
            rw [if_neg h4, if_pos h5, if_pos hn, if_neg (by omega), ← h5]
            unfold plD
            rw [nbR_w hw]
          · unfold aA atX; rw [if_neg h3, if_neg h4, if_pos h5, if_pos hn, if_neg (by omega), if_neg (by omega)]
        · cases h
      · rename_i h5
        refine ⟨?_, ?_⟩
        · unfold pA plX; rw [if_neg h4, if_neg h5, if_neg (by omega)]
        · unfold aA atX; rw [if_neg h3, if_neg h4, if_neg h5, if_neg (by omega), if_neg (by omega)]
end Go.Proofs.YtkbdnkjjklbddaaGreatDoor.Am.M
