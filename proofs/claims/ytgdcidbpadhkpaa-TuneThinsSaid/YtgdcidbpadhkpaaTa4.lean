import Derived.Deep.DeepMust
import Derived.Test.YtgdcidbpadhkpaaRows
import Derived.WalkKit
import Derived.WalkSpells
import Derived.Lib.Hide
import Derived.Deep.LoopGhost
import Derived.Test.YtgdcidbpadhkpaaTa3

set_option linter.unusedVariables false
set_option linter.unusedSimpArgs false
namespace Go.Proofs.Ytgdcidbpadhkpaa
open Go.RowKit

def AscA (l : List Arc) : Prop := l.Pairwise fun a b => a.r < b.r
theorem rngE_zero {lo hi a b : Int} : rngE lo hi a b = 0 ↔ a ≤ lo ∧ lo ≤ b ∧ a ≤ hi ∧ hi ≤ b ∧ lo ≤ hi := by
  unfold rngE
  by_cases h1 : a ≤ lo ∧ lo ≤ b
  · rw [if_neg (by simpa using h1)]
    by_cases h2 : a ≤ hi ∧ hi ≤ b
    · rw [if_neg (by simpa using h2)]
      by_cases h3 : hi < lo
      · rw [if_pos h3]; simp; omega
      · rw [if_neg h3]; simp; omega
    · rw [if_pos h2]; simp; omega
  · rw [if_pos h1]; simp; omega
theorem arcBad_zero {x : Arc} : arcBad x = 0 ↔ ArcOk x ∧ x.lo ≤ x.hi := by
  have h := rngE_zero (lo := x.lo) (hi := x.hi) (a := 0) (b := 1000000000000)
  simp only [arcBad, firstE, rgd, ArcOk]
  generalize rngE x.lo x.hi 0 1000000000000 = r at *
  by_cases h1 : 1 ≤ x.r ∧ x.r ≤ 100000
  · rw [show (decide (1 ≤ x.r) && decide (x.r ≤ 100000)) = true by simpa using h1]
    by_cases h2 : r = 0
    · have := h.1 h2
      simp [h2]; omega
    · have : ¬ (0 ≤ x.lo ∧ x.lo ≤ 1000000000000 ∧ 0 ≤ x.hi ∧ x.hi ≤ 1000000000000 ∧ x.lo ≤ x.hi) := fun k => h2 (h.2 k)
      simp [h2]; omega
  · rw [show (decide (1 ≤ x.r) && decide (x.r ≤ 100000)) = false by rw [← Bool.not_eq_true]; simpa using h1]
    simp
    omega
theorem ckArcs_ok : ∀ (l : List Arc) (i : Nat) (p : Option Int), (ckArcs i p l).2 = 0 → (∀ x ∈ l, ArcOk x ∧ x.lo ≤ x.hi) ∧ AscA l ∧ ∀ d, p = some d → ∀ x ∈ l, d < x.r
  | [], _, _, _ => ⟨by simp, List.Pairwise.nil, by simp⟩
  | x :: xs, i, p, h => by
    unfold ckArcs at h
    by_cases h1 : arcBad x ≠ 0
    · rw [if_pos h1] at h; exact absurd h h1
    rw [if_neg h1] at h
    have hx := arcBad_zero.1 (by simpa using h1)
    cases p with
    | none =>
      simp only [ordBad, Bool.false_eq_true, if_false] at h
      obtain ⟨k1, k2, k3⟩ := ckArcs_ok xs _ _ h
      exact ⟨by intro y hy; rcases List.mem_cons.1 hy with rfl | hy; exact hx; exact k1 y hy, List.Pairwise.cons (fun y hy => k3 x.r rfl y hy) k2, by simp⟩
    | some d =>
      by_cases h2 : x.r ≤ d
      · rw [if_pos (by simpa [ordBad] using h2)] at h; simp at h
      rw [if_neg (by simpa [ordBad] using h2)] at h
      obtain ⟨k1, k2, k3⟩ := ckArcs_ok xs _ _ h
      refine ⟨by intro y hy; rcases List.mem_cons.1 hy with rfl | hy; exact hx; exact k1 y hy, List.Pairwise.cons (fun y hy => k3 x.r rfl y hy) k2, ?_⟩
      rintro d' ⟨⟩ y hy
      rcases List.mem_cons.1 hy with rfl | hy
      · omega
      · have := k3 x.r rfl y hy; omega
structure ArcsOk (l : List Arc) : Prop where
  two : 2 ≤ l.length
  few : l.length ≤ 12
  ok : ∀ x ∈ l, ArcOk x ∧ x.lo ≤ x.hi
  asc : AscA l
theorem ckArcs_num : ∀ (l : List Arc) (i : Nat) (p : Option Int), (ckArcs i p l).2 = 0 → (ckArcs i p l).1 = 0
  | [], _, _, _ => rfl
  | x :: xs, i, p, h => by
    unfold ckArcs at h ⊢
    split at h
    · rename_i h1; exact absurd h h1
    · rename_i h1
      rw [if_neg h1]
      split at h
      · simp at h
      · rename_i h2
        rw [if_neg h2]
        exact ckArcs_num xs _ _ h
theorem ckA_ok {l : List Arc} (h : (ckA l).2 = 0) : ArcsOk l ∧ (ckA l).1 = 0 := by
  unfold ckA at h ⊢
  by_cases h0 : l.length < 2
  · rw [if_pos h0] at h; simp at h
  rw [if_neg h0] at h ⊢
  by_cases h1 : 12 < l.length
  · rw [if_pos h1] at h; simp at h
  rw [if_neg h1] at h ⊢
  obtain ⟨k1, k2, _⟩ := ckArcs_ok l _ _ h
  exact ⟨⟨by omega, by omega, k1, k2⟩, ckArcs_num l _ _ h⟩

theorem pairsTo_asc {l : List Arc} (h : AscA l) : ∀ k, k ≤ l.length → ∀ p ∈ pairsTo l k, p.1.r < p.2.r
  | 0, _ => by simp [pairsTo]
  | k + 1, hk => by
    intro p hp
    simp only [pairsTo, List.mem_append, List.mem_map] at hp
    rcases hp with hp | ⟨a, ha, rfl⟩
    · exact pairsTo_asc h k (by omega) p hp
    · obtain ⟨i, hi, rfl⟩ := List.mem_iff_getElem.1 ha
      have hik : i < k := by rw [List.length_take] at hi; omega
      rw [show l.getD k ⟨0, 0, 0⟩ = l[k] by simp [show k < l.length by omega], List.getElem_take]
      exact List.pairwise_iff_getElem.1 h i k (by omega) (by omega) hik
theorem slow_bg : ∀ (xs : List (Arc × Arc)) (s : Slow), s.bg = true → (xs.foldl slowS s).bg = true
  | [], _, h => h
  | p :: xs, s, _ => slow_bg xs (slowS s p) rfl
theorem slow_den : ∀ (xs : List (Arc × Arc)) (s : Slow), (s.bg = true → 1 ≤ s.le.2 ∧ 1 ≤ s.mo.2) → (∀ p ∈ xs, p.1.r < p.2.r) → (xs.foldl slowS s).bg = true → 1 ≤ (xs.foldl slowS s).le.2 ∧ 1 ≤ (xs.foldl slowS s).mo.2
  | [], _, h, _, hb => h hb
  | p :: xs, s, h, hx, hb => by
    have hp := hx p (by simp)
    refine slow_den xs (slowS s p) (fun _ => ?_) (fun q hq => hx q (by simp [hq])) hb
    unfold slowS
    dsimp only
    cases hbg : s.bg with
    | false => simp only [Bool.not_false, Bool.true_or, if_true, loP, hiP, wayP]; omega
    | true =>
      obtain ⟨h1, h2⟩ := h hbg
      simp only [Bool.not_true, Bool.false_or]
      constructor
      · split
        · simp only [loP, wayP]; omega
        · exact h1
      · split
        · simp only [hiP, wayP]; omega
        · exact h2
theorem slowL_den {l : List Arc} (h : ArcsOk l) : 1 ≤ (slowL (pairsTo l l.length)).le.2 ∧ 1 ≤ (slowL (pairsTo l l.length)).mo.2 := by
  refine slow_den _ _ (by simp [slow0]) (pairsTo_asc h.asc _ (Nat.le_refl _)) ?_
  have hp : pairsTo l 2 <+: pairsTo l l.length := pairsTo_prefix l h.two
  have h2 : pairsTo l 2 = [(l.getD 0 ⟨0, 0, 0⟩, l.getD 1 ⟨0, 0, 0⟩)] := by
    have := h.two
    obtain ⟨a, b, t, rfl⟩ : ∃ a b t, l = a :: b :: t := by
      match l, this with
      | a :: b :: t, _ => exact ⟨a, b, t, rfl⟩
    simp [pairsTo]
  obtain ⟨t, ht⟩ := hp
  rw [← ht, h2]
  exact slow_bg _ (slowS slow0 _) rfl

def perS (d : Int) : Int := 10000000 * d
theorem over_p (n d : Int) (w : World) (h1 : -200000 ≤ d) (h2 : d ≤ 200000) :
    Calls Try.prog 89 #[.agg #[.int .i64 n, .int .i64 d], .int .i64 10000000] w fun e w' => e = .returned (.agg #[.int .i64 (perS d), .int .i64 n]) ∧ Ext w w' :=
  over_c n d 10000000 w (by omega) (by omega)
theorem enc_p (n d : Int) (w : World) (h0 : 1 ≤ n) (h1 : -200000 ≤ d) (h2 : d ≤ 200000) :
    Calls Try.prog 88 #[.agg #[.int .i64 (perS d), .int .i64 n]] w fun e w' => e = .returned (.agg #[.int .i64 (enc (perS d, n)).1, .int .i64 (enc (perS d, n)).2]) ∧ Ext w w' :=
  enclosed_c (perS d) n w h0 (by unfold perS; omega) (by unfold perS; omega)
attribute [local irreducible] perS enc
def slowOf (l : List Arc) : Slow := slowL (pairsTo l l.length)
def speedR (l : List Arc) : (Int × Int) × Int :=
  if (ckA l).2 ≠ 0 then ((0, 0), (ckA l).2) else if lessB (slowOf l).mo (slowOf l).le = true then ((0, 0), 12) else if (slowOf l).le.1 ≤ 0 then ((0, 0), 11)
  else (((enc (perS (slowOf l).mo.2, (slowOf l).mo.1)).1, (enc (perS (slowOf l).le.2, (slowOf l).le.1)).2), 0)
theorem slow_spd {s : Slow} (h1 : 1 ≤ s.le.2) (h2 : 1 ≤ s.mo.2) (h3 : 1 ≤ s.le.1) (h4 : lessB s.mo s.le = false) : 1 ≤ s.mo.1 := by
  have h5 : ¬ (s.mo.1 * s.le.2 < s.le.1 * s.mo.2) := by simpa [lessB] using h4
  have h6 : 1 * 1 ≤ s.le.1 * s.mo.2 := Int.mul_le_mul h3 h2 (by omega) (by omega)
  by_cases h0 : 0 < s.mo.1
  · omega
  · have h : s.mo.1 ≤ 0 := by omega
    have := Int.mul_nonpos_of_nonpos_of_nonneg h (show 0 ≤ s.le.2 by omega)
    omega

set_option maxRecDepth 100000 in
set_option maxHeartbeats 2000000 in
theorem SpeedRange_c (l : List Arc) (A : Option Addr) (c : Nat) (w : World) (h : ArcsS w A l) (hc : l.length ≤ c) :
    Calls Try.prog 60 #[.slice A l.length c] w fun e w' => e = .returned (.tuple #[.agg #[.int .i64 (speedR l).1.1, .int .i64 (speedR l).1.2], .int .i64 (speedR l).2]) ∧ Ext w w' := by
  have ho := open_c l A c (w.alloc (.cells #[.int .i64 0, .int .i64 0] 52)) (h.ext ((Ext.refl w).alloc _))
  have HO := Lib.hid ho; clear ho
  by_cases he : (ckA l).2 = 0
  · have hok := (ckA_ok he).1
    have hz : speedR l = if lessB (slowOf l).mo (slowOf l).le = true then ((0, 0), 12) else if (slowOf l).le.1 ≤ 0 then ((0, 0), 11)
        else (((enc (perS (slowOf l).mo.2, (slowOf l).mo.1)).1, (enc (perS (slowOf l).le.2, (slowOf l).le.1)).2), 0) := by simp [speedR, he]
    rw [he] at HO
    obtain ⟨b, off, rfl, hbl, hR⟩ := h.resolve_left (fun e => by have := hok.two; rw [e] at this; simp at this)
    have hdn := slowL_den hok
    have hsm := small_slow (pairsTo l l.length) slow0 small_zero small_zero (pairsTo_ok (fun x hx => (hok.ok x hx).1) _ (Nat.le_refl _))
    have hsl : ∀ w' : World, Ext w w' → Calls Try.prog 107 #[.slice (some ⟨b, off, none⟩) l.length c] w' fun e w'' =>
        e = .returned (.tuple #[aggP (slowOf l).le, aggP (slowOf l).mo, .bool (!lessB (slowOf l).mo (slowOf l).le)]) ∧ Ext w' w'' :=
      fun w' hE => slowness_c l b off c w' (Nat.lt_of_lt_of_le hbl hE.size) (hR.ext hE) hok.few hc (fun x hx => (hok.ok x hx).1)
    change Small (slowOf l).le ∧ Small (slowOf l).mo at hsm
    change 1 ≤ (slowOf l).le.2 ∧ 1 ≤ (slowOf l).mo.2 at hdn
    clear hR
    generalize slowOf l = s at *
    simp only [aggP] at hsl
    have HSL := Lib.hid hsl; clear hsl
    have HZ := Lib.hid hz; clear hz
    obtain ⟨dn1, dn2⟩ := hdn
    obtain ⟨⟨s1, s2, s3, s4⟩, s5, s6, s7, s8⟩ := hsm
    have hE0 : Ext w (w.alloc (.cells #[.int .i64 0, .int .i64 0] 52)) := (Ext.refl w).alloc _
    have HE0 := Lib.hid hE0; clear hE0
    cases hp : lessB s.mo s.le with
    | true =>
      rw [hp] at HZ HSL
      go_enter Try.func60, Try.ntmps60
      go_wp2_with (first | (go_at_call 106; refine HO.out.mono ?_; go_must (rintro e W ⟨rfl, hE1⟩; have B := (Blk2.new w (.int .i64 0) (.int .i64 0) 52).ext hE1; obtain ⟨q1, q2, q3, q4, q5⟩ := B; have hE : Ext w W := HE0.out.trans hE1; have HE := Lib.hid hE; clear hE hE1)) | (go_at_call 107; refine (HSL.out _ HE.out).mono ?_; go_must (rintro e W2 ⟨rfl, hE2⟩; have B2 : Blk2 W2 w.heap.size (.int .i64 0) (.int .i64 0) := Blk2.ext ⟨q1, q2, q3, q4, q5⟩ hE2; clear q1 q2 q3 q4 q5; obtain ⟨q1, q2, q3, q4, q5⟩ := B2; have hE3 := HE.out.trans hE2; have HE3 := Lib.hid hE3; clear hE2 hE3)))
      rw [HZ.out]
      refine bodyPost_ret (v := .tuple #[.agg #[.int .i64 0, .int .i64 0], .int .i64 12]) (by simp [results, Try.results60, go_sem, World.cell?_alloc_lt, q1, q2, q5]) rfl ⟨rfl, ?_⟩
      exact ((set2 HE3.out (by simp) (by simp) _ _).alloc _).alloc _
    | false =>
      rw [hp] at HZ HSL
      by_cases h0 : s.le.1 ≤ 0
      · have hz : speedR l = ((0, 0), 11) := by rw [HZ.out]; simp [h0]
        have HZ2 := Lib.hid hz; clear hz
        go_enter Try.func60, Try.ntmps60
        go_wp2_with (first | (go_at_call 106; refine HO.out.mono ?_; go_must (rintro e W ⟨rfl, hE1⟩; have B := (Blk2.new w (.int .i64 0) (.int .i64 0) 52).ext hE1; obtain ⟨q1, q2, q3, q4, q5⟩ := B; have hE : Ext w W := HE0.out.trans hE1; have HE := Lib.hid hE; clear hE hE1)) | (go_at_call 107; refine (HSL.out _ HE.out).mono ?_; go_must (rintro e W2 ⟨rfl, hE2⟩; have B2 : Blk2 W2 w.heap.size (.int .i64 0) (.int .i64 0) := Blk2.ext ⟨q1, q2, q3, q4, q5⟩ hE2; clear q1 q2 q3 q4 q5; obtain ⟨q1, q2, q3, q4, q5⟩ := B2; have hE3 := HE.out.trans hE2; have HE3 := Lib.hid hE3; clear hE2 hE3)))
        rw [HZ2.out]
        refine bodyPost_ret (v := .tuple #[.agg #[.int .i64 0, .int .i64 0], .int .i64 11]) (by simp [results, Try.results60, go_sem, World.cell?_alloc_lt, q1, q2, q5]) rfl ⟨rfl, ?_⟩
        exact (((set2 HE3.out (by simp) (by simp) _ _).alloc _).alloc _)
      · have hz : speedR l = (((enc (perS s.mo.2, s.mo.1)).1, (enc (perS s.le.2, s.le.1)).2), 0) := by rw [HZ.out]; simp [h0]
        have HZ2 := Lib.hid hz; clear hz
        have k1 : 1 ≤ s.le.1 := by omega
        have k2 := slow_spd dn1 dn2 k1 hp
        go_enter Try.func60, Try.ntmps60
        go_wp2_with (first | (go_at_call 106; refine HO.out.mono ?_; go_must (rintro e W ⟨rfl, hE1⟩; have B := (Blk2.new w (.int .i64 0) (.int .i64 0) 52).ext hE1; obtain ⟨q1, q2, q3, q4, q5⟩ := B; have hE : Ext w W := HE0.out.trans hE1; have HE := Lib.hid hE; clear hE hE1)) | (go_at_call 107; refine (HSL.out _ HE.out).mono ?_; go_must (rintro e W2 ⟨rfl, hE2⟩; have B2 : Blk2 W2 w.heap.size (.int .i64 0) (.int .i64 0) := Blk2.ext ⟨q1, q2, q3, q4, q5⟩ hE2; clear q1 q2 q3 q4 q5; obtain ⟨q1, q2, q3, q4, q5⟩ := B2; have hE3 := HE.out.trans hE2; have HE3 := Lib.hid hE3; clear hE2 hE3)))
        have e3 : Ext W2 ((W2.alloc (.cells #[.int .i64 s.le.1, .int .i64 s.le.2] 130)).alloc (.cells #[.int .i64 s.mo.1, .int .i64 s.mo.2] 130)) := ((Ext.refl _).alloc _).alloc _
        have B6 : Blk2 ((W2.alloc (.cells #[.int .i64 s.le.1, .int .i64 s.le.2] 130)).alloc (.cells #[.int .i64 s.mo.1, .int .i64 s.mo.2] 130)) W2.heap.size (.int .i64 s.le.1) (.int .i64 s.le.2) := (Blk2.new W2 _ _ _).ext ((Ext.refl _).alloc _)
        have B7 := Blk2.new (W2.alloc (.cells #[.int .i64 s.le.1, .int .i64 s.le.2] 130)) (.int .i64 s.mo.1) (.int .i64 s.mo.2) 130
        simp only [World.size_alloc] at B7
        generalize (W2.alloc (.cells #[.int .i64 s.le.1, .int .i64 s.le.2] 130)).alloc (.cells #[.int .i64 s.mo.1, .int .i64 s.mo.2] 130) = W3 at *
        obtain ⟨p1, p2, _, _, _⟩ := B6
        obtain ⟨p3, p4, _, _, _⟩ := B7
        have B3 : Blk2 W3 w.heap.size (.int .i64 0) (.int .i64 0) := Blk2.ext ⟨q1, q2, q3, q4, q5⟩ e3
        have hE4 := HE3.out.trans e3
        have HE4 := Lib.hid hE4; clear hE4 q1 q2 q3 q4 q5 e3
        obtain ⟨⟨a1, a2⟩, ⟨b1, b2⟩, bg⟩ := s
        simp only at *
        refine wp_region_Tt (R := Ext) 9 (fun w' => Ext (W3) w') [(0, 0), (1, 0), (2, 0), (3, 0), (4, 0), (5, 0), (6, 0), (7, 0), (8, 0)] (by kernel_rfl) (by kernel_rfl) (fun _ _ h k => k.trans h) ((Ext.refl _).drew) ?_
        iterate 9
          first
            | (apply wpT_no
               focus (simp only [List.getElem?_toArray, List.getElem?_cons_zero, List.getElem?_cons_succ]; rfl)
               focus rfl
               focus (simp only [Act.put, List.setIfInBounds_toArray, List.set_cons_zero, List.set_cons_succ]; rfl))
            | (apply wpT_ex
               focus (simp only [List.getElem?_toArray, List.getElem?_cons_zero, List.getElem?_cons_succ]; rfl)
               focus rfl
               focus
                 intro w1 hC Ψ hΨ
                 have d1 := hC.cell p1
                 have d2 := hC.cell p2
                 have d3 := hC.cell p3
                 have d4 := hC.cell p4
                 go_simp; (try (go_bits; (try go_simp)))
                 first
                   | exact hΨ _ (Ext.refl _)
                   | (go_at_call 89; with_reducible refine (over_p b1 b2 _ s7 s8).mono ?_; rintro e w2 ⟨rfl, hE2⟩; exact ⟨_, rfl, hΨ _ hE2⟩)
                   | (go_at_call 89; with_reducible refine (over_p a1 a2 _ s3 s4).mono ?_; rintro e w2 ⟨rfl, hE2⟩; exact ⟨_, rfl, hΨ _ hE2⟩)
                   | (go_at_call 88; with_reducible refine (enc_p b1 b2 _ k2 s7 s8).mono ?_; rintro e w2 ⟨rfl, hE2⟩; exact ⟨_, rfl, hΨ _ hE2⟩)
                   | (go_at_call 88; with_reducible refine (enc_p a1 a2 _ k1 s3 s4).mono ?_; rintro e w2 ⟨rfl, hE2⟩; exact ⟨_, rfl, hΨ _ hE2⟩)
               focus (simp only [Act.put, List.setIfInBounds_toArray, List.set_cons_zero, List.set_cons_succ]; rfl))
        refine wpT_nil ?_
        intro w1 hC
        simp only [List.drop_succ_cons, List.drop_zero]
        obtain ⟨q1, q2, q3, q4, q5⟩ := B3.ext hC
        have HE5 := Lib.hid (HE4.out.trans hC); clear hC p1 p2 p3 p4
        go_wp2
        rw [HZ2.out]
        refine bodyPost_ret (v := .tuple #[.agg #[.int .i64 (enc (perS b2, b1)).1, .int .i64 (enc (perS a2, a1)).2], .int .i64 0]) (by simp [results, Try.results60, go_sem, q1, q2, q5]) rfl ⟨rfl, ?_⟩
        exact set2 HE5.out (by simp) (by simp) _ _
  · generalize hr : (ckA l).2 = r at *
    have hz : speedR l = ((0, 0), r) := by simp [speedR, hr, he]
    have HZ := Lib.hid hz; clear hz
    have hb : (r == 0) = false := by simpa using he
    have hE0 : Ext w (w.alloc (.cells #[.int .i64 0, .int .i64 0] 52)) := (Ext.refl w).alloc _
    have HE0 := Lib.hid hE0; clear hE0
    go_enter Try.func60, Try.ntmps60
    go_wp2_with (go_at_call 106; refine HO.out.mono ?_; go_must (rintro e W ⟨rfl, hE1⟩; have B := (Blk2.new w (.int .i64 0) (.int .i64 0) 52).ext hE1; obtain ⟨q1, q2, q3, q4, q5⟩ := B; have hE : Ext w W := HE0.out.trans hE1; have HE := Lib.hid hE; clear hE hE1))
    rw [HZ.out]
    refine bodyPost_ret (v := .tuple #[.agg #[.int .i64 0, .int .i64 0], .int .i64 r]) (by simp [results, Try.results60, go_sem, World.cell?_alloc_lt, q1, q2, q5]) rfl ⟨rfl, ?_⟩
    exact set2 HE.out (by simp) (by simp) _ _
end Go.Proofs.Ytgdcidbpadhkpaa
