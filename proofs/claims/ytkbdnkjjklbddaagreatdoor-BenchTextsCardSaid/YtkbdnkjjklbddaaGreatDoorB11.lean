/- Contracts over the abstract machine: a specimen is read from lines: the code. Conditions: none. -/
import Derived.Test.YtkbdnkjjklbddaaGreatDoorB10
set_option linter.unusedVariables false
set_option linter.unusedSimpArgs false
set_option maxRecDepth 100000
namespace Go.Proofs.YtkbdnkjjklbddaaGreatDoor.Am.M
open Go
theorem lnC_f (l : List UInt8) : ((lnC l).2.2 = !decide ((cutN l).length < 2)) ∧ (cutN l).getD 0 [] = (lnC l).1 ∧ ((lnC l).2.2 = true → (cutN l).drop 1 = cutN (lnC l).2.1) ∧ (lnC l).1.length ≤ l.length ∧ (lnC l).2.1.length ≤ l.length := by
  rcases lnC_cases l with ⟨h1, h2⟩ | ⟨x, r, h1, h2, h3⟩
  · rw [h1, h2]; exact ⟨rfl, rfl, (fun h => by cases h), Nat.le_refl _, Nat.zero_le _⟩
  · rw [h1, h2]
    have h4 : 1 ≤ (cutN r).length := by
      cases hq : cutN r with
      | nil => exact absurd hq (cutN_ne r)
      | cons _ _ => simp
    exact ⟨by simp; omega, rfl, fun _ => rfl, by show x.length ≤ _; omega, by show r.length ≤ _; omega⟩

def rsN (t : List UInt8) : Nat → List UInt8
  | 0 => t
  | k + 1 => (lnC (rsN t k)).2.1
def lnK (t : List UInt8) (k : Nat) : ByteArray := mkB (lnC (rsN t k)).1
def okK (t : List UInt8) (k : Nat) : Bool := (lnC (rsN t k)).2.2
theorem lnC_len (l : List UInt8) : (lnC l).2.2 = true → (lnC l).2.1.length + 1 ≤ l.length := by
  rcases lnC_cases l with ⟨h1, h2⟩ | ⟨x, r, h1, h2, h3⟩
  · rw [h1]; intro h; cases h
  · rw [h1]; intro _; show r.length + 1 ≤ _; omega
theorem ok_len {t : List UInt8} : ∀ k, (∀ i, i < k → okK t i = true) → (rsN t k).length + k ≤ t.length
  | 0, _ => Nat.le_refl _
  | k + 1, h => by
    have ih := ok_len (t := t) k fun i hi => h i (by omega)
    have h1 := lnC_len (rsN t k) (h k (by omega))
    show (lnC (rsN t k)).2.1.length + (k + 1) ≤ _
    omega
theorem lnK_le (t : List UInt8) (k : Nat) : (lnK t k).size ≤ (rsN t k).length := by
  unfold lnK; rw [mkB_size]; exact (lnC_f (rsN t k)).2.2.2.1
def hwd : Nat → ByteArray | 0 => timS | 1 => outS | _ => bacS
def hos : Nat → List Nat | 0 => [9, 10] | 1 => [1, 2, 3, 4] | _ => [5, 6, 7, 8]
def nilD : D := .v (.slice none 0 0)
def z13 : List D := [nilD, .v (.int .i64 0), .v (.int .i64 0), .v (.int .i64 0), .v (.int .i64 0), .v (.int .i64 0), .v (.int .i64 0), .v (.int .i64 0), .v (.int .i64 0), .v (.int .i64 0), .v (.int .i64 0), nilD, nilD]
def hC (t : List UInt8) : Nat → List D
  | 0 => z13
  | k + 1 => rdC (hC t k) (hos k) (lnK t k) (hwd k)
def hB (t : List UInt8) (k : Nat) : Bool := okK t k && rdB (lnK t k) (hwd k) (hos k).length
def hn (t : List UInt8) (k : Nat) : List Int := (nbR (lnK t k) (hwd k)).1
theorem rdC_len {cs : List D} {os : List Nat} {s wd : ByteArray} (h : ∀ o ∈ os, o < cs.length) : (rdC cs os s wd).length = cs.length := by
  unfold rdC
  split
  · exact wrC_len h _ _ (Nat.le_refl _)
  · rfl
theorem hos_ok (k : Nat) : (hos k).length ≤ 10 ∧ ∀ o ∈ hos k, o < 13 := by
  match k with
  | 0 => decide
  | 1 => decide
  | _ + 2 => show [5, 6, 7, 8].length ≤ 10 ∧ ∀ o ∈ [5, 6, 7, 8], o < 13; decide
theorem hC_len (t : List UInt8) : ∀ k, (hC t k).length = 13
  | 0 => rfl
  | k + 1 => (rdC_len (by rw [hC_len t k]; exact (hos_ok k).2)).trans (hC_len t k)
theorem list13 {l : List D} (h : l.length = 13) : ∃ c0 c1 c2 c3 c4 c5 c6 c7 c8 c9 c10 c11 c12, l = [c0, c1, c2, c3, c4, c5, c6, c7, c8, c9, c10, c11, c12] := by
  match l, h with
  | [c0, c1, c2, c3, c4, c5, c6, c7, c8, c9, c10, c11, c12], _ => exact ⟨c0, c1, c2, c3, c4, c5, c6, c7, c8, c9, c10, c11, c12, rfl⟩
def elK (t : List UInt8) (k : Nat) : Int × Int := ((nbR (lnK t k) eleS).1.getD 0 0, (nbR (lnK t k) eleS).1.getD 1 0)
def esM (t : List UInt8) (i : Nat) : List (List D) := (List.range i).map fun j => shC (elK t (3 + j))
theorem esM_succ (t : List UInt8) (i : Nat) : esM t (i + 1) = esM t i ++ [shC (elK t (3 + i))] := by unfold esM; rw [List.range_succ, List.map_append]; rfl
def pK (t : List UInt8) : Nat → List D
  | 0 => [.v (.int .i64 0), .v (.int .i64 0)]
  | i + 1 => rdC (pK t i) [0, 1] (lnK t (3 + i)) eleS
def eB (t : List UInt8) (k : Nat) : Bool := okK t k && rdB (lnK t k) eleS 2
theorem pK_len (t : List UInt8) : ∀ i, (pK t i).length = 2
  | 0 => rfl
  | i + 1 => (rdC_len (by rw [pK_len t i]; decide)).trans (pK_len t i)
theorem pK_succ {t : List UInt8} {i : Nat} (h : eB t (3 + i) = true) : pK t (i + 1) = shC (elK t (3 + i)) := by
  unfold eB at h
  rw [Bool.and_eq_true] at h
  have hl := pK_len t i
  show rdC (pK t i) [0, 1] (lnK t (3 + i)) eleS = _
  unfold rdC
  rw [if_pos (show rdB (lnK t (3 + i)) eleS [0, 1].length = true from h.2)]
  match hq : pK t i, hl with
  | [a, b], _ => rfl
def c13 (t : List UInt8) (m : Nat) (p f : D) : List D := [.sl 2 (esM t m), .v (.int .i64 ((hn t 1).getD 0 0)), .v (.int .i64 ((hn t 1).getD 1 0)), .v (.int .i64 ((hn t 1).getD 2 0)), .v (.int .i64 ((hn t 1).getD 3 0)), .v (.int .i64 ((hn t 2).getD 0 0)), .v (.int .i64 ((hn t 2).getD 1 0)), .v (.int .i64 ((hn t 2).getD 2 0)), .v (.int .i64 ((hn t 2).getD 3 0)), .v (.int .i64 ((hn t 0).getD 0 0)), .v (.int .i64 ((hn t 0).getD 1 0)), p, f]
theorem wr3 (l0 l1 l2 : List Int) : wrC (wrC (wrC z13 [9, 10] l0 2) [1, 2, 3, 4] l1 4) [5, 6, 7, 8] l2 4 = [nilD, .v (.int .i64 (l1.getD 0 0)), .v (.int .i64 (l1.getD 1 0)), .v (.int .i64 (l1.getD 2 0)), .v (.int .i64 (l1.getD 3 0)), .v (.int .i64 (l2.getD 0 0)), .v (.int .i64 (l2.getD 1 0)), .v (.int .i64 (l2.getD 2 0)), .v (.int .i64 (l2.getD 3 0)), .v (.int .i64 (l0.getD 0 0)), .v (.int .i64 (l0.getD 1 0)), nilD, nilD] := by simp [wrC, setCs, z13]
theorem hC3 {t : List UInt8} (h0 : hB t 0 = true) (h1 : hB t 1 = true) (h2 : hB t 2 = true) : hC t 3 = [nilD, .v (.int .i64 ((hn t 1).getD 0 0)), .v (.int .i64 ((hn t 1).getD 1 0)), .v (.int .i64 ((hn t 1).getD 2 0)), .v (.int .i64 ((hn t 1).getD 3 0)), .v (.int .i64 ((hn t 2).getD 0 0)), .v (.int .i64 ((hn t 2).getD 1 0)), .v (.int .i64 ((hn t 2).getD 2 0)), .v (.int .i64 ((hn t 2).getD 3 0)), .v (.int .i64 ((hn t 0).getD 0 0)), .v (.int .i64 ((hn t 0).getD 1 0)), nilD, nilD] := by
  unfold hB at h0 h1 h2
  rw [Bool.and_eq_true] at h0 h1 h2
  have e1 : hC t 1 = wrC z13 [9, 10] (hn t 0) 2 := (if_pos h0.2 : rdC z13 [9, 10] (lnK t 0) timS = _)
  have e2 : hC t 2 = wrC (hC t 1) [1, 2, 3, 4] (hn t 1) 4 := (if_pos h1.2 : rdC (hC t 1) [1, 2, 3, 4] (lnK t 1) outS = _)
  have e3 : hC t 3 = wrC (hC t 2) [5, 6, 7, 8] (hn t 2) 4 := (if_pos h2.2 : rdC (hC t 2) [5, 6, 7, 8] (lnK t 2) bacS = _)
  rw [e3, e2, e1]
  exact wr3 _ _ _
def plD (t : List UInt8) (k : Nat) : D := .sl 1 ((nbR (lnK t k) pulS).1.map iC)
def uB (t : List UInt8) (k : Nat) : Bool := okK t k && puB (lnK t k)
def fB (t : List UInt8) (k : Nat) : Bool := okK t k && (flP (lnK t k)).2
def fsJ (t : List UInt8) (b : Nat) (i : Nat) : List (List D) := (List.range i).map fun j => flwC (flP (lnK t (b + j))).1
theorem fsJ_succ (t : List UInt8) (b i : Nat) : fsJ t b (i + 1) = fsJ t b i ++ [flwC (flP (lnK t (b + i))).1] := by unfold fsJ; rw [List.range_succ, List.map_append]; rfl
def spR (t : List UInt8) (m j : Nat) : List D × Bool × Nat :=
  if hB t 0 = false then (hC t 0, false, 0) else if hB t 1 = false then (hC t 1, false, 1) else if hB t 2 = false then (hC t 2, false, 2)
  else if uB t (3 + m) = false then (c13 t m (if okK t (3 + m) = true then plD t (3 + m) else nilD) nilD, false, 3 + m)
  else if rsN t (4 + m + j) = [] then (c13 t m (plD t (3 + m)) (.sl 8 (fsJ t (4 + m) j)), true, 4 + m + j)
  else (c13 t m (plD t (3 + m)) (.sl 8 (if okK t (4 + m + j) = true then fsJ t (4 + m) (j + 1) else fsJ t (4 + m) j)), false, 4 + m + j)
theorem spR_h {t : List UInt8} {m j k : Nat} (hk : k < 3) (h : ∀ i, i < k → hB t i = true) (hb : hB t k = false) : spR t m j = (hC t k, false, k) := by
  unfold spR
  match k, hk with
  | 0, _ => rw [if_pos hb]
  | 1, _ => rw [if_neg (by rw [h 0 (by omega)]; decide), if_pos hb]
  | 2, _ => rw [if_neg (by rw [h 0 (by omega)]; decide), if_neg (by rw [h 1 (by omega)]; decide), if_pos hb]
def kn (b : Bool) (k : Nat) : Nat := if b = true then k + 1 else k
theorem takeB (b0 : Nat) (fi : FuncId) (cp : D) (hen : enB Tryz.prog fi = true) (cs cs2 cs3 : List D) (t : List UInt8) (k : Nat) (q : Bool) (hr : (rsN t k).length ≤ 100000) (hk : k ≤ 100000)
    (hf : okK t k = true → PCSX Tryz.prog NGB GB b0 fi [.d (.v (.string (lnK t k))), .d cp] [.box cs] (.d (.v (.bool q))) [.box cs2]) (h3 : cs3 = if okK t k = true then cs2 else cs) :
    PCSX Tryz.prog NGB GB b0 74 [.ref 1 0, .d (.fn (.func fi) [cp])] [.box cs, .box [.v (.string (mkB (rsN t k))), .v (.int .i64 (k : Int))]] (.d (.v (.bool (okK t k && q)))) [.box cs3, .box [.v (.string (mkB (rsN t (kn (okK t k && q) k)))), .v (.int .i64 ((kn (okK t k && q) k : Nat) : Int))]] := by
  subst h3
  cases ho : okK t k with
  | false => exact (takeNo_p b0 fi cp hen cs cs2 (rsN t k) (k : Int) hr (by omega) ho).eqs rfl (by simp [kn])
  | true =>
    cases q with
    | false => exact (takeN_p b0 fi cp hen cs cs2 (rsN t k) (k : Int) hr (by omega) ho (hf ho)).eqs rfl (by simp [kn])
    | true => exact (takeY_p b0 fi cp hen cs cs2 (rsN t k) (k : Int) hr (by omega) ho (hf ho)).eqs rfl (by simp [kn]; rfl)
theorem takeFl (b0 : Nat) (t : List UInt8) (b i : Nat) (c0 c1 c2 c3 c4 c5 c6 c7 c8 c9 c10 c11 : D) (hr : (rsN t (b + i)).length ≤ 100000) (hk : b + i ≤ 100000) :
    PCSX Tryz.prog NGB GB b0 74 [.ref 2 0, .d (.fn (.func 79) [.v (ptr b0 0)])] [.tbox [.d c0, .d c1, .d c2, .d c3, .d c4, .d c5, .d c6, .d c7, .d c8, .d c9, .d c10, .d c11, .rs 1], .row 39 8 (fsJ t b i), .box [.v (.string (mkB (rsN t (b + i)))), .v (.int .i64 ((b + i : Nat) : Int))]] (.d (.v (.bool (fB t (b + i))))) [.tbox [.d c0, .d c1, .d c2, .d c3, .d c4, .d c5, .d c6, .d c7, .d c8, .d c9, .d c10, .d c11, .rs 1], .row 39 8 (if okK t (b + i) = true then fsJ t b (i + 1) else fsJ t b i), .box [.v (.string (mkB (rsN t (kn ((okK t (b + i) && (flP (lnK t (b + i))).2)) (b + i))))), .v (.int .i64 ((kn ((okK t (b + i) && (flP (lnK t (b + i))).2)) (b + i) : Nat) : Int))]] := by
  have hf := form4_p b0 (lnK t (b + i)) (Nat.le_trans (lnK_le t _) hr) c0 c1 c2 c3 c4 c5 c6 c7 c8 c9 c10 c11 ((List.range i).map fun j => (flP (lnK t (b + j))).1) (by rw [List.length_map, List.length_range]; omega)
  rw [List.map_map] at hf
  unfold fB
  cases ho : okK t (b + i) with
  | false => exact (takeNoF_p b0 79 (.v (ptr b0 0)) en79 c0 c1 c2 c3 c4 c5 c6 c7 c8 c9 c10 c11 (fsJ t b i) (fsJ t b i) (rsN t (b + i)) ((b + i : Nat) : Int) hr (by omega) ho).eqs rfl (by simp [kn])
  | true =>
    cases hq : (flP (lnK t (b + i))).2 with
    | false => rw [hq] at hf; exact (takeNF_p b0 79 (.v (ptr b0 0)) en79 c0 c1 c2 c3 c4 c5 c6 c7 c8 c9 c10 c11 (fsJ t b i) _ (rsN t (b + i)) ((b + i : Nat) : Int) hr (by omega) ho hf).eqs rfl (by simp [kn, fsJ_succ]; rfl)
    | true => rw [hq] at hf; exact (takeYF_p b0 79 (.v (ptr b0 0)) en79 c0 c1 c2 c3 c4 c5 c6 c7 c8 c9 c10 c11 (fsJ t b i) _ (rsN t (b + i)) ((b + i : Nat) : Int) hr (by omega) ho hf).eqs rfl (by simp [kn, fsJ_succ]; exact ⟨rfl, rfl⟩)

theorem headTake (b0 : Nat) (t : List UInt8) (k : Nat) (hk3 : k < 3) (hr : (rsN t k).length ≤ 100000) : PCSX Tryz.prog NGB GB b0 74 [.ref 1 0, .d (.fn (.func 75) [.pt [.v (.string (hwd k)), .sl 1 ((hos k).map fun o => [.v (ptr b0 o)])] 0])] [.box (hC t k), .box [.v (.string (mkB (rsN t k))), .v (.int .i64 (k : Int))]] (.d (.v (.bool (hB t k)))) [.box (hC t (kn (hB t k) k)), .box [.v (.string (mkB (rsN t (kn (hB t k) k)))), .v (.int .i64 ((kn (hB t k) k : Nat) : Int))]] :=
  takeB b0 75 _ en75 (hC t k) (rdC (hC t k) (hos k) (lnK t k) (hwd k)) _ t k (rdB (lnK t k) (hwd k) (hos k).length) hr (by omega) (fun _ => form1_p b0 (lnK t k) (hwd k) (Nat.le_trans (lnK_le t k) hr) (hC t k) (hos k) (hos_ok k).1 (by rw [hC_len]; exact (hos_ok k).2)) (by
    unfold hB kn rdC
    cases h1 : okK t k <;> cases h2 : rdB (lnK t k) (hwd k) (hos k).length <;> simp
    show rdC _ _ _ _ = _
    unfold rdC; rw [if_pos h2])
theorem elemTake (b0 : Nat) (t : List UInt8) (i : Nat) (hk : 3 + i ≤ 100000) (hr : (rsN t (3 + i)).length ≤ 100000) : PCSX Tryz.prog NGB GB b0 74 [.ref 1 0, .d (.fn (.func 76) [.v (ptr b0 0)])] [.box (pK t i), .box [.v (.string (mkB (rsN t (3 + i)))), .v (.int .i64 ((3 + i : Nat) : Int))]] (.d (.v (.bool (eB t (3 + i))))) [.box (pK t (kn (eB t (3 + i)) i)), .box [.v (.string (mkB (rsN t (kn (eB t (3 + i)) (3 + i))))), .v (.int .i64 ((kn (eB t (3 + i)) (3 + i) : Nat) : Int))]] :=
  takeB b0 76 _ en76 (pK t i) (rdC (pK t i) [0, 1] (lnK t (3 + i)) eleS) _ t (3 + i) (rdB (lnK t (3 + i)) eleS 2) hr hk (fun _ => form2_p b0 (lnK t (3 + i)) (Nat.le_trans (lnK_le t _) hr) (pK t i) (pK_len t i)) (by
    unfold eB kn rdC
    cases h1 : okK t (3 + i) <;> cases h2 : rdB (lnK t (3 + i)) eleS 2 <;> simp [h2]
    show rdC _ _ _ _ = _
    unfold rdC; simp [h2])
theorem pulseTake (b0 : Nat) (t : List UInt8) (m : Nat) (hk : 3 + m ≤ 100000) (hr : (rsN t (3 + m)).length ≤ 100000) : PCSX Tryz.prog NGB GB b0 74 [.ref 1 0, .d (.fn (.func 77) [.v (ptr b0 0)])] [.box (c13 t m nilD nilD), .box [.v (.string (mkB (rsN t (3 + m)))), .v (.int .i64 ((3 + m : Nat) : Int))]] (.d (.v (.bool (uB t (3 + m))))) [.box (c13 t m (if okK t (3 + m) = true then plD t (3 + m) else nilD) nilD), .box [.v (.string (mkB (rsN t (kn (uB t (3 + m)) (3 + m))))), .v (.int .i64 ((kn (uB t (3 + m)) (3 + m) : Nat) : Int))]] :=
  takeB b0 77 _ en77 (c13 t m nilD nilD) (setCs (c13 t m nilD nilD) 11 [plD t (3 + m)]) _ t (3 + m) (puB (lnK t (3 + m))) hr hk (fun _ => form3_q b0 (lnK t (3 + m)) (Nat.le_trans (lnK_le t _) hr) (c13 t m nilD nilD) rfl) (by
    cases h1 : okK t (3 + m) <;> simp <;> rfl)
end Go.Proofs.YtkbdnkjjklbddaaGreatDoor.Am.M
