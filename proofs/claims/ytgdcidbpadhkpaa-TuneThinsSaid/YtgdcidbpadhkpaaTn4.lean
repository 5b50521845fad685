import Derived.Deep.DeepMust
import Derived.Test.YtgdcidbpadhkpaaRows
import Derived.WalkKit
import Derived.WalkSpells
import Derived.Lib.Hide
import Derived.Deep.LoopGhost
import Derived.Test.YtgdcidbpadhkpaaTn3

set_option linter.unusedVariables false
set_option linter.unusedSimpArgs false
namespace Go.Proofs.Ytgdcidbpadhkpaa
open Go.RowKit

theorem first2_c (a b : Int) (g : Nat) (w : World) (h0 : w.cell? ⟨g, 0, none⟩ = some (.int .i64 a)) (h1 : w.cell? ⟨g, 1, none⟩ = some (.int .i64 b)) :
    Calls Try.prog 84 #[.slice (some ⟨g, 0, none⟩) 2 2] w fun e w' => e = .returned (.int .i64 (firstE [a, b])) ∧ w = w' := by
  refine first_c [a, b] g 0 2 w (fun i x hx => ?_) (by simp)
  rcases i with _ | _ | i
  · injection hx with hx; subst hx; exact h0
  · injection hx with hx; subst hx; exact h1
  · cases hx
theorem first3_c (a b c : Int) (g : Nat) (w : World) (h0 : w.cell? ⟨g, 0, none⟩ = some (.int .i64 a)) (h1 : w.cell? ⟨g, 1, none⟩ = some (.int .i64 b)) (h2 : w.cell? ⟨g, 2, none⟩ = some (.int .i64 c)) :
    Calls Try.prog 84 #[.slice (some ⟨g, 0, none⟩) 3 3] w fun e w' => e = .returned (.int .i64 (firstE [a, b, c])) ∧ w = w' := by
  refine first_c [a, b, c] g 0 3 w (fun i x hx => ?_) (by simp)
  rcases i with _ | _ | _ | i
  · injection hx with hx; subst hx; exact h0
  · injection hx with hx; subst hx; exact h1
  · injection hx with hx; subst hx; exact h2
  · cases hx

theorem findGe_spec {d : Int} : ∀ {l : List (Int × Int)} {k i : Nat}, findGe d k l = some i → ∃ j, i = k + j ∧ ∃ h : j < l.length, d ≤ l[j].1 ∧ ∀ m (hm : m < j), (l[m]'(by omega)).1 < d
  | [], _, _, h => by simp [findGe] at h
  | x :: xs, k, i, h => by
    unfold findGe at h
    by_cases h1 : d ≤ x.1
    · rw [if_pos h1] at h; injection h with h; subst h; exact ⟨0, rfl, by simp, by simpa using h1, fun m hm => absurd hm (by omega)⟩
    · rw [if_neg h1] at h
      obtain ⟨j, rfl, hj, h2, h3⟩ := findGe_spec h
      refine ⟨j + 1, by omega, by simpa using hj, by simpa using h2, fun m hm => ?_⟩
      rcases m with _ | m
      · simp; omega
      · simpa using h3 m (by omega)
theorem btw_pos (a b : Int × Int) (d : Int) (ha : RowOk a) (hb : RowOk b) (h1 : a.1 < d) (h2 : d ≤ b.1) : 1 ≤ (btw a b d).1 ∧ (btw a b d).1 ≤ 200000000000 ∧ 1 ≤ (btw a b d).2 ∧ (btw a b d).2 ≤ 100000 := by
  have hne : a ≠ b := fun e => by subst e; omega
  have hm := btw_b a b d ha hb ⟨by have := ha.1; omega, by have := hb.2.1; omega⟩
  simp only [btw, hne, if_false]
  obtain ⟨a1, a2, a3, a4⟩ := ha
  obtain ⟨b1, b2, b3, b4⟩ := hb
  have k : a.2 * (b.1 - a.1) + (b.2 - a.2) * (d - a.1) = (a.2 - 1) * (b.1 - d) + (b.2 - 1) * (d - a.1) + (b.1 - a.1) := by
    simp only [Int.sub_mul, Int.mul_sub]; omega
  have p1 : 0 ≤ (a.2 - 1) * (b.1 - d) := Int.mul_nonneg (by omega) (by omega)
  have p2 : 0 ≤ (b.2 - 1) * (d - a.1) := Int.mul_nonneg (by omega) (by omega)
  omega
theorem echoAtS_ok {l : List (Int × Int)} {d : Int} (h : (echoAtS l d).2 = 0) : 1 ≤ (echoAtS l d).1.1 ∧ (echoAtS l d).1.1 ≤ 200000000000 ∧ 1 ≤ (echoAtS l d).1.2 ∧ (echoAtS l d).1.2 ≤ 100000 := by
  unfold echoAtS at h ⊢
  by_cases h0 : (ckT l).2 ≠ 0
  · rw [if_pos h0] at h; exact absurd h h0
  rw [if_neg h0] at h ⊢
  have hT := (ckT_ok (by simpa using h0)).1
  by_cases hd : ¬ (0 ≤ d ∧ d ≤ 100000)
  · rw [if_pos hd] at h; simp at h
  rw [if_neg hd] at h ⊢
  cases hf : findGe d 0 l with
  | none => rw [hf] at h; simp at h
  | some i =>
    rw [hf] at h
    simp only at h ⊢
    obtain ⟨j, hij, hj, k1, k2⟩ := findGe_spec hf
    have hij : i = j := by omega
    subst hij
    by_cases hi : i = 0 ∧ d < (l.getD 0 (0, 0)).1
    · rw [if_pos hi] at h; simp at h
    rw [if_neg hi]
    have e1 : l.getD i (0, 0) = l[i] := by simp [hj]
    rw [e1]
    cases i with
    | zero =>
      have hr := hT.row _ (List.getElem_mem hj)
      simp only [Nat.zero_sub, e1, btw, if_true]
      obtain ⟨a1, a2, a3, a4⟩ := hr
      omega
    | succ m =>
      have hm : m < l.length := by omega
      have e2 : l.getD (m + 1 - 1) (0, 0) = l[m] := by simp [hm]
      rw [e2]
      exact btw_pos _ _ _ (hT.get hm) (hT.get hj) (k2 m (by omega)) k1

def enc0 (s : (Int × Int) × Int) (m : Int) : Int × Int := enc (m * s.1.2, s.1.1)
def echoR (l : List (Int × Int)) (d : Int) : (Int × Int) × Int := if (echoAtS l d).2 ≠ 0 then ((0, 0), (echoAtS l d).2) else (enc (echoAtS l d).1, 0)
def gainR (l : List (Int × Int)) (d t : Int) : (Int × Int) × Int := if firstE [(echoAtS l d).2, echoE t] ≠ 0 then ((0, 0), firstE [(echoAtS l d).2, echoE t]) else (enc0 (echoAtS l d) (1000 * t), 0)
def equalR (l : List (Int × Int)) (x : Int × Int) (t : Int) : (Int × Int) × Int := if firstE [(echoAtS l x.1).2, echoE x.2, echoE t] ≠ 0 then ((0, 0), firstE [(echoAtS l x.1).2, echoE x.2, echoE t]) else (enc0 (echoAtS l x.1) (x.2 * t), 0)

set_option maxRecDepth 100000 in
set_option maxHeartbeats 2000000 in
theorem EchoAt_c (l : List (Int × Int)) (A : Option Addr) (c : Nat) (d : Int) (w : World) (h : RowsS w A l) :
    Calls Try.prog 35 #[.slice A l.length c, .int .i64 d] w fun e w' => e = .returned (.tuple #[.agg #[.int .i64 (echoR l d).1.1, .int .i64 (echoR l d).1.2], .int .i64 (echoR l d).2]) ∧ Ext w w' := by
  have HH := Lib.hid h; clear h
  obtain ⟨s, hs⟩ : ∃ s, echoAtS l d = s := ⟨_, rfl⟩
  have Hs := Lib.hid hs; clear hs
  have e0 : Ext w (w.alloc (.cells #[.int .i64 0, .int .i64 0] 52)) := (Ext.refl w).alloc _
  have E0 := Lib.hid e0; clear e0
  by_cases h0 : s.2 = 0
  · have hz : echoR l d = (enc s.1, 0) := by simp [echoR, Hs.out, h0]
    have HZ := Lib.hid hz; clear hz
    have hk := echoAtS_ok (by rw [Hs.out]; exact h0)
    rw [Hs.out] at hk
    obtain ⟨k1, k2, k3, k4⟩ := hk
    obtain ⟨⟨n, m⟩, e⟩ := s
    simp only at h0 k1 k2 k3 k4 HZ
    subst h0
    go_enter Try.func35, Try.ntmps35
    go_wp2_with (first | (go_at_call 87; refine (echoAt_c l A c d _ (HH.out.ext E0.out)).mono ?_; go_must (rintro e W ⟨rfl, hE1⟩; rw [Hs.out]; have hEw := E0.out.trans hE1; have B := (Blk2.new w (.int .i64 0) (.int .i64 0) 52).ext hE1; obtain ⟨q1, q2, f1, f2, zs⟩ := B; have HE := Lib.hid hEw; clear hEw hE1)) | (go_at_call 88; refine (enclosed_c n m _ k3 (by omega) (by omega)).mono ?_; go_must (rintro e W2 ⟨rfl, hE2⟩; have hq := hE2.alloc'; have p1 := hq.cell q1; have p2 := hq.cell q2; have y1 := hq.fz zs f1; have y2 := hq.fz zs f2; have hE3 : Ext w W2 := HE.out.trans hq; have HE3 := Lib.hid hE3; clear hE2 hE3 hq)))
    rw [HZ.out]
    refine bodyPost_ret (v := .tuple #[.agg #[.int .i64 (enc (n, m)).1, .int .i64 (enc (n, m)).2], .int .i64 0]) (by simp [results, Try.results35, go_sem, p1, p2]) rfl ⟨rfl, ?_⟩
    exact set2 HE3.out (by simp) (by simp) _ _
  · have hz : echoR l d = ((0, 0), s.2) := by simp [echoR, Hs.out, h0]
    have HZ := Lib.hid hz; clear hz
    obtain ⟨⟨n, m⟩, e⟩ := s
    simp only at h0 HZ
    have hb : (e == 0) = false := by simpa using h0
    go_enter Try.func35, Try.ntmps35
    go_wp2_with (go_at_call 87; refine (echoAt_c l A c d _ (HH.out.ext E0.out)).mono ?_; go_must (rintro e W ⟨rfl, hE1⟩; rw [Hs.out]; have hEw := E0.out.trans hE1; have B := (Blk2.new w (.int .i64 0) (.int .i64 0) 52).ext hE1; obtain ⟨q1, q2, f1, f2, zs⟩ := B; have HE := Lib.hid hEw; clear hEw hE1))
    rw [HZ.out]
    refine bodyPost_ret (v := .tuple #[.agg #[.int .i64 0, .int .i64 0], .int .i64 e]) (by simp [results, Try.results35, go_sem, World.cell?_alloc_lt, zs, q1, q2]) rfl ⟨rfl, ?_⟩
    exact (set2 HE.out (by simp) (by simp) _ _).alloc _

set_option maxRecDepth 100000 in
set_option maxHeartbeats 2000000 in
theorem GainAt_c (l : List (Int × Int)) (A : Option Addr) (c : Nat) (d t : Int) (w : World) (h : RowsS w A l) :
    Calls Try.prog 36 #[.slice A l.length c, .int .i64 d, .int .i64 t] w fun e w' => e = .returned (.tuple #[.agg #[.int .i64 (gainR l d t).1.1, .int .i64 (gainR l d t).1.2], .int .i64 (gainR l d t).2]) ∧ Ext w w' := by
  have HH := Lib.hid h; clear h
  obtain ⟨s, hs⟩ : ∃ s, echoAtS l d = s := ⟨_, rfl⟩
  have Hs := Lib.hid hs; clear hs
  have e0 : Ext w (w.alloc (.cells #[.int .i64 0, .int .i64 0] 52)) := (Ext.refl w).alloc _
  have E0 := Lib.hid e0; clear e0
  obtain ⟨r, hr⟩ : ∃ r, firstE [s.2, echoE t] = r := ⟨_, rfl⟩
  by_cases h0 : r = 0
  · have hz : gainR l d t = (enc0 s (1000 * t), 0) := by simp [gainR, Hs.out, hr, h0]
    have HZ := Lib.hid hz; clear hz
    have hs2 : s.2 = 0 := by
      rw [h0] at hr
      simp only [firstE] at hr
      split at hr
      · assumption
      · exact hr
    have ht : 1 ≤ t ∧ t ≤ 1000000 := by
      rw [h0] at hr
      simp only [firstE, hs2, if_true] at hr
      split at hr
      · rename_i h; have := rgd_zero.1 h; simpa using this
      · have := rgd_zero.1 hr; simpa using this
    have hk := echoAtS_ok (by rw [Hs.out]; exact hs2)
    rw [Hs.out] at hk
    obtain ⟨k1, k2, k3, k4⟩ := hk
    obtain ⟨⟨n, m⟩, e⟩ := s
    obtain ⟨t1, t2⟩ := ht
    simp only at hs2 k1 k2 k3 k4 HZ hr
    have HR := Lib.hid (hr.trans h0); clear hr hs2 h0
    have hm := mul_le_of (a := 1000 * t) (b := m) (A := 1000000000) (B := 100000) (by omega) (by omega) (by omega) (by omega)
    obtain ⟨m1, m2⟩ := hm
    go_enter Try.func36, Try.ntmps36
    go_wp2_with (first | (go_at_call 87; refine (echoAt_c l A c d _ (HH.out.ext E0.out)).mono ?_; go_must (rintro e W ⟨rfl, hE1⟩; rw [Hs.out]; have hEw := E0.out.trans hE1; have B := (Blk2.new w (.int .i64 0) (.int .i64 0) 52).ext hE1; obtain ⟨q1, q2, f1, f2, zs⟩ := B; have HE := Lib.hid hEw; clear hEw hE1)) | (go_at_call 86; refine (echoErr_c _ _).mono ?_; rintro e9 w9 ⟨rfl, rfl⟩) | (go_at_call 84; refine (first2_c e (echoE t) _ _ (by simp) (by simp)).mono ?_; go_must (rintro e9 w9 ⟨rfl, rfl⟩; rw [HR.out])) | (go_at_call 89; refine (over_c n m (1000 * t) _ (by omega) (by omega)).mono ?_; go_must (rintro e W2 ⟨rfl, hE2⟩; have hq := hE2.alloc'.alloc'; have HQ := Lib.hid hq; clear hE2 hq)) | (go_at_call 88; refine (enclosed_c (1000 * t * m) n _ k1 (by omega) (by omega)).mono ?_; go_must (rintro e W3 ⟨rfl, hE2⟩; have hq := HQ.out.trans hE2; have p1 := hq.cell q1; have p2 := hq.cell q2; have y1 := hq.fz zs f1; have y2 := hq.fz zs f2; have hE3 : Ext w W3 := HE.out.trans hq; have HE3 := Lib.hid hE3; clear hE2 hE3 hq)))
    rw [HZ.out]
    refine bodyPost_ret (v := .tuple #[.agg #[.int .i64 (enc (1000 * t * m, n)).1, .int .i64 (enc (1000 * t * m, n)).2], .int .i64 0]) (by simp [results, Try.results36, go_sem, p1, p2]) rfl ⟨rfl, ?_⟩
    exact set2 HE3.out (by simp) (by simp) _ _
  · have hz : gainR l d t = ((0, 0), r) := by simp [gainR, Hs.out, hr, h0]
    have HZ := Lib.hid hz; clear hz
    obtain ⟨⟨n, m⟩, e⟩ := s
    simp only at HZ hr
    have HR := Lib.hid hr; clear hr
    have hb : (r == 0) = false := by simpa using h0
    go_enter Try.func36, Try.ntmps36
    go_wp2_with (first | (go_at_call 87; refine (echoAt_c l A c d _ (HH.out.ext E0.out)).mono ?_; go_must (rintro e W ⟨rfl, hE1⟩; rw [Hs.out]; have hEw := E0.out.trans hE1; have B := (Blk2.new w (.int .i64 0) (.int .i64 0) 52).ext hE1; obtain ⟨q1, q2, f1, f2, zs⟩ := B; have HE := Lib.hid hEw; clear hEw hE1)) | (go_at_call 86; refine (echoErr_c _ _).mono ?_; rintro e9 w9 ⟨rfl, rfl⟩) | (go_at_call 84; refine (first2_c e (echoE t) _ _ (by simp) (by simp)).mono ?_; go_must (rintro e9 w9 ⟨rfl, rfl⟩; rw [HR.out])))
    rw [HZ.out]
    refine bodyPost_ret (v := .tuple #[.agg #[.int .i64 0, .int .i64 0], .int .i64 r]) (by simp [results, Try.results36, go_sem, World.cell?_alloc_lt, zs, q1, q2]) rfl ⟨rfl, ?_⟩
    exact ((set2 HE.out (by simp) (by simp) _ _).alloc _).alloc _

set_option maxRecDepth 100000 in
set_option maxHeartbeats 2000000 in
theorem Equalised_c (l : List (Int × Int)) (A : Option Addr) (c : Nat) (x : Int × Int) (t : Int) (w : World) (h : RowsS w A l) :
    Calls Try.prog 41 #[.slice A l.length c, .agg #[.int .i64 x.1, .int .i64 x.2], .int .i64 t] w fun e w' => e = .returned (.tuple #[.agg #[.int .i64 (equalR l x t).1.1, .int .i64 (equalR l x t).1.2], .int .i64 (equalR l x t).2]) ∧ Ext w w' := by
  have HH := Lib.hid h; clear h
  obtain ⟨s, hs⟩ : ∃ s, echoAtS l x.1 = s := ⟨_, rfl⟩
  have Hs := Lib.hid hs; clear hs
  have e0 : Ext w ((w.alloc (.cells #[.int .i64 x.1, .int .i64 x.2] 59)).alloc (.cells #[.int .i64 0, .int .i64 0] 52)) := ((Ext.refl w).alloc _).alloc _
  have E0 := Lib.hid e0; clear e0
  obtain ⟨r, hr⟩ : ∃ r, firstE [s.2, echoE x.2, echoE t] = r := ⟨_, rfl⟩
  by_cases h0 : r = 0
  · have hz : equalR l x t = (enc0 s (x.2 * t), 0) := by simp [equalR, Hs.out, hr, h0]
    have HZ := Lib.hid hz; clear hz
    have hs2 : s.2 = 0 := by
      rw [h0] at hr
      simp only [firstE] at hr
      split at hr
      · assumption
      · exact hr
    have ht : (1 ≤ x.2 ∧ x.2 ≤ 1000000) ∧ 1 ≤ t ∧ t ≤ 1000000 := by
      rw [h0] at hr
      simp only [firstE, hs2, if_true] at hr
      split at hr
      · rename_i hx
        refine ⟨by have := rgd_zero.1 hx; simpa using this, ?_⟩
        split at hr
        · rename_i h; have := rgd_zero.1 h; simpa using this
        · have := rgd_zero.1 hr; simpa using this
      · rename_i hx; exact absurd hr hx
    have hk := echoAtS_ok (by rw [Hs.out]; exact hs2)
    rw [Hs.out] at hk
    obtain ⟨k1, k2, k3, k4⟩ := hk
    obtain ⟨⟨n, m⟩, e⟩ := s
    obtain ⟨⟨x1, x2⟩, t1, t2⟩ := ht
    simp only at hs2 k1 k2 k3 k4 HZ hr
    have HR := Lib.hid (hr.trans h0); clear hr hs2 h0
    have hm0 := mul_le_of (a := x.2) (b := t) (A := 1000000) (B := 1000000) (by omega) (by omega) (by omega) (by omega)
    have hm := mul_le_of (a := x.2 * t) (b := m) (A := 1000000000000) (B := 100000) (by omega) (by omega) (by omega) (by omega)
    obtain ⟨m1, m2⟩ := hm
    obtain ⟨m3, m4⟩ := hm0
    go_enter Try.func41, Try.ntmps41
    go_wp2_with (first | (go_at_call 87; refine (echoAt_c l A c x.1 _ (HH.out.ext E0.out)).mono ?_; go_must (rintro e W ⟨rfl, hE1⟩; rw [Hs.out]; have hEw := E0.out.trans hE1; have B : Blk2 W (w.heap.size + 1) (.int .i64 0) (.int .i64 0) := (by have := (Blk2.new (w.alloc (.cells #[.int .i64 x.1, .int .i64 x.2] 59)) (.int .i64 0) (.int .i64 0) 52).ext hE1; simpa using this); obtain ⟨q1, q2, f1, f2, zs⟩ := B; have zs0 : w.heap.size < W.heap.size := (by omega); have x1' : W.cell? ⟨w.heap.size, 0, none⟩ = some (.int .i64 x.1) := hE1.cell (by simp); have x2' : W.cell? ⟨w.heap.size, 1, none⟩ = some (.int .i64 x.2) := hE1.cell (by simp); have HE := Lib.hid hEw; clear hEw hE1)) | (go_at_call 86; refine (echoErr_c _ _).mono ?_; rintro e9 w9 ⟨rfl, rfl⟩) | (go_at_call 84; refine (first3_c e (echoE x.2) (echoE t) _ _ (by simp) (by simp) (by simp)).mono ?_; go_must (rintro e9 w9 ⟨rfl, rfl⟩; rw [HR.out])) | (go_at_call 89; refine (over_c n m (x.2 * t) _ (by omega) (by omega)).mono ?_; go_must (rintro e W2 ⟨rfl, hE2⟩; have hq := hE2.alloc'.alloc'; have HQ := Lib.hid hq; clear hE2 hq)) | (go_at_call 88; refine (enclosed_c (x.2 * t * m) n _ k1 (by omega) (by omega)).mono ?_; go_must (rintro e W3 ⟨rfl, hE2⟩; have hq := HQ.out.trans hE2; have p1 := hq.cell q1; have p2 := hq.cell q2; have y1 := hq.fz zs f1; have y2 := hq.fz zs f2; have hE3 : Ext w W3 := HE.out.trans hq; have HE3 := Lib.hid hE3; clear hE2 hE3 hq)))
    rw [HZ.out]
    refine bodyPost_ret (v := .tuple #[.agg #[.int .i64 (enc (x.2 * t * m, n)).1, .int .i64 (enc (x.2 * t * m, n)).2], .int .i64 0]) (by simp [results, Try.results41, go_sem, p1, p2]) rfl ⟨rfl, ?_⟩
    exact set2 HE3.out (by simp) (by simp) _ _
  · have hz : equalR l x t = ((0, 0), r) := by simp [equalR, Hs.out, hr, h0]
    have HZ := Lib.hid hz; clear hz
    obtain ⟨⟨n, m⟩, e⟩ := s
    simp only at HZ hr
    have HR := Lib.hid hr; clear hr
    have hb : (r == 0) = false := by simpa using h0
    go_enter Try.func41, Try.ntmps41
    go_wp2_with (first | (go_at_call 87; refine (echoAt_c l A c x.1 _ (HH.out.ext E0.out)).mono ?_; go_must (rintro e W ⟨rfl, hE1⟩; rw [Hs.out]; have hEw := E0.out.trans hE1; have B : Blk2 W (w.heap.size + 1) (.int .i64 0) (.int .i64 0) := (by have := (Blk2.new (w.alloc (.cells #[.int .i64 x.1, .int .i64 x.2] 59)) (.int .i64 0) (.int .i64 0) 52).ext hE1; simpa using this); obtain ⟨q1, q2, f1, f2, zs⟩ := B; have zs0 : w.heap.size < W.heap.size := (by omega); have x1' : W.cell? ⟨w.heap.size, 0, none⟩ = some (.int .i64 x.1) := hE1.cell (by simp); have x2' : W.cell? ⟨w.heap.size, 1, none⟩ = some (.int .i64 x.2) := hE1.cell (by simp); have HE := Lib.hid hEw; clear hEw hE1)) | (go_at_call 86; refine (echoErr_c _ _).mono ?_; rintro e9 w9 ⟨rfl, rfl⟩) | (go_at_call 84; refine (first3_c e (echoE x.2) (echoE t) _ _ (by simp) (by simp) (by simp)).mono ?_; go_must (rintro e9 w9 ⟨rfl, rfl⟩; rw [HR.out])))
    rw [HZ.out]
    refine bodyPost_ret (v := .tuple #[.agg #[.int .i64 0, .int .i64 0], .int .i64 r]) (by simp [results, Try.results41, go_sem, World.cell?_alloc_lt, zs, zs0, q1, q2]) rfl ⟨rfl, ?_⟩
    exact ((set2 HE.out (by simp) (by simp) _ _).alloc _).alloc _
end Go.Proofs.Ytgdcidbpadhkpaa
