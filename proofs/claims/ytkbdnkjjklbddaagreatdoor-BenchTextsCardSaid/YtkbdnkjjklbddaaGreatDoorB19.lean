/- Contracts over the abstract machine: what is written is read again. Conditions: none. -/
import Derived.Test.YtkbdnkjjklbddaaGreatDoorB18
set_option linter.unusedVariables false
set_option linter.unusedSimpArgs false
set_option maxRecDepth 100000
namespace Go.Proofs.YtkbdnkjjklbddaaGreatDoor.Am.M
open Go
theorem dd_len13 {u : Nat} (h : u ≤ 9999999999999) : (Lib.decDigits u).length ≤ 13 := by
  rw [Lib.decDigits_length]
  rcases Nat.lt_or_ge u 10 with h1 | h1
  · rw [Lib.nDigits_small h1]; omega
  · rcases Nat.lt_or_ge 13 (Lib.nDigits u) with q | q
    · exfalso
      have hp : ∀ k : Nat, ∀ u : Nat, k + 1 ≤ Lib.nDigits u → k = 0 ∨ 10 ^ k ≤ u := by
        intro k
        induction k with
        | zero => intro u _; exact .inl rfl
        | succ k ih =>
          intro u hu
          right
          by_cases hs : u < 10
          · rw [Lib.nDigits_small hs] at hu; omega
          · rw [Lib.nDigits_big hs] at hu
            rw [Nat.pow_succ]
            rcases ih (u / 10) (by omega) with e | e
            · subst e; simp; omega
            · omega
      rcases hp 13 u (by omega) with e | e
      · cases e
      · have : (10 : Nat) ^ 13 = 10000000000000 := by decide
        omega
    · exact q
theorem num_itoa13 {n : Int} (h0 : -9999999999999 ≤ n) (h1 : n ≤ 9999999999999) : numI (mkB (Lib.itoa n)) = (n, true) := by
  have hl := dd_len13 (u := n.natAbs) (by omega)
  obtain ⟨b, r, e1, e2, e3, e4⟩ := dd_head n.natAbs
  have hb45 : b ≠ 45 := fun e => by rw [e] at e2; exact absurd e2 (by decide)
  by_cases hs : n < 0
  · have hi : Lib.itoa n = 45 :: Lib.decDigits n.natAbs := by unfold Lib.itoa; rw [if_pos hs]
    have hn : negL (Lib.itoa n) = true := by rw [hi]; rfl
    have hd : digL (Lib.itoa n) = Lib.decDigits n.natAbs := by unfold digL; rw [hn, hi]; rfl
    have hb : ¬ badL (Lib.itoa n) := by
      unfold badL
      rw [hd]
      rintro (q | q | ⟨q, k⟩)
      · rw [e1] at q; cases q
      · omega
      · rw [e1] at q
        have := (e4 (by simpa using q)).1
        omega
    have hm : nmL (Lib.itoa n) = (n, true) := by
      unfold nmL
      rw [if_neg hb, hd, dec_digits, hn]
      show (-(n.natAbs : Int), true) = _
      rw [show -(n.natAbs : Int) = n by omega]
    rw [num_up (by rw [data_mkB, hm]), data_mkB, hm]
  · have hi : Lib.itoa n = Lib.decDigits n.natAbs := by unfold Lib.itoa; rw [if_neg hs, show n.toNat = n.natAbs by omega]
    have hn : negL (Lib.itoa n) = false := by unfold negL; rw [hi, e1]; simpa using hb45
    have hd : digL (Lib.itoa n) = Lib.decDigits n.natAbs := by unfold digL; rw [hn, hi]; rfl
    have hb : ¬ badL (Lib.itoa n) := by
      unfold badL
      rw [hd]
      rintro (q | q | ⟨q, k⟩)
      · rw [e1] at q; cases q
      · omega
      · rw [hi, e1] at k
        rw [e1] at q
        have := (e4 (by simpa using q)).2
        rw [this] at k; simp at k
    have hm : nmL (Lib.itoa n) = (n, true) := by
      unfold nmL
      rw [if_neg hb, hd, dec_digits, hn]
      show ((n.natAbs : Int), true) = _
      rw [show (n.natAbs : Int) = n by omega]
    rw [num_up (by rw [data_mkB, hm]), data_mkB, hm]
theorem dig_not10 {u : Nat} : (10 : UInt8) ∉ Lib.decDigits u := by
  intro h
  obtain ⟨k, hk⟩ := List.getElem?_of_mem h
  obtain ⟨d, hd⟩ := Lib.digit_of_decFrom _ 0 u (dec_digits u) k 10 hk
  have := (Lib.digitVal_eq hd).1
  exact absurd this (by decide)
theorem itoa_not10 (n : Int) : (10 : UInt8) ∉ Lib.itoa n := by
  unfold Lib.itoa
  split
  · intro h
    rcases List.mem_cons.1 h with e | e
    · exact absurd e (by decide)
    · exact dig_not10 e
  · exact dig_not10
theorem jt_not10 : ∀ {r : List (List UInt8)}, (∀ y ∈ r, (10 : UInt8) ∉ y) → (10 : UInt8) ∉ Lib.joinTail [32] r
  | [], _ => by simp [Lib.joinTail]
  | a :: r, h => by
    show (10 : UInt8) ∉ [32] ++ a ++ Lib.joinTail [32] r
    have h1 := h a (by simp)
    have h2 := jt_not10 (r := r) fun y hy => h y (by simp [hy])
    simp only [List.mem_append, List.mem_singleton, not_or]
    exact ⟨⟨by decide, h1⟩, h2⟩
theorem cutN_line {x : List UInt8} (h : 10 ∉ x) : cutN (x ++ [10]) = [x, []] := by
  rw [cutN_app h]
  show (x ++ []) :: [[]] = _
  rw [List.append_nil]
theorem cutN_more (b : List UInt8) : ∀ (a : List UInt8) (Z : List (List UInt8)), cutN a = Z ++ [[]] → cutN (a ++ b) = Z ++ cutN b
  | [], Z, h => by
    have h : [[]] = Z ++ [[]] := h
    cases Z with
    | nil => rfl
    | cons z Z => have := congrArg List.length h; simp at this
  | c :: a, Z, h => by
    by_cases hc : c = 10
    · have e : cutN (c :: a) = [] :: cutN a := by show (if c = 10 then [] :: cutN a else hdL [c] (cutN a)) = _; rw [if_pos hc]
      rw [e] at h
      cases Z with
      | nil => exact absurd (List.cons.inj h).2 (cutN_ne a)
      | cons z Z =>
        obtain ⟨h1, h2⟩ := List.cons.inj h
        have ih := cutN_more b a Z h2
        show (if c = 10 then [] :: cutN (a ++ b) else hdL [c] (cutN (a ++ b))) = _
        rw [if_pos hc, ih, h1]; rfl
    · have e : cutN (c :: a) = hdL [c] (cutN a) := by show (if c = 10 then [] :: cutN a else hdL [c] (cutN a)) = _; rw [if_neg hc]
      rw [e] at h
      cases hq : cutN a with
      | nil => exact absurd hq (cutN_ne a)
      | cons y ys =>
        rw [hq] at h
        have h : ([c] ++ y) :: ys = Z ++ [[]] := h
        cases Z with
        | nil => have := (List.cons.inj h).1; simp at this
        | cons z Z =>
          obtain ⟨h1, h2⟩ := List.cons.inj h
          have ih := cutN_more b a (y :: Z) (by rw [hq, h2]; rfl)
          show (if c = 10 then [] :: cutN (a ++ b) else hdL [c] (cutN (a ++ b))) = _
          rw [if_neg hc, ih, ← h1]; rfl

theorem cutN_flat : ∀ {X : List (List UInt8)}, (∀ l ∈ X, (10 : UInt8) ∉ l) → cutN (flat X) = X ++ [[]]
  | [], _ => rfl
  | x :: X, h => by
    have ih := cutN_flat (X := X) fun l hl => h l (by simp [hl])
    rw [show x :: X = [x] ++ X from rfl, flat_app, flat_one, cutN_more _ _ [x] (cutN_line (h x (by simp))), ih]; rfl
theorem wrT_not10 {wd : ByteArray} {ns : List Int} (h : (10 : UInt8) ∉ wd.data.toList) : (10 : UInt8) ∉ wrT wd ns := by
  rw [wrT_is]
  simp only [List.mem_append, not_or]
  exact ⟨h, jt_not10 fun y hy => by obtain ⟨m, _, rfl⟩ := List.mem_map.1 hy; exact itoa_not10 m⟩
theorem pcs_wr {wd : ByteArray} {ns : List Int} (h : (32 : UInt8) ∉ wd.data.toList) : pcs (mkB (wrT wd ns)) = wd :: ns.map fun n => mkB (Lib.itoa n) := by
  rw [pcs_cut, data_mkB, wrT_is, cut_join h (fun y hy => by obtain ⟨m, _, rfl⟩ := List.mem_map.1 hy; exact itoa_not m), List.map_cons, List.map_map, mkB_data]; rfl
def Sm13 (n : Int) : Prop := -1000000000000 ≤ n ∧ n ≤ 1000000000000
theorem rnR_itoa {l : List Int} (h : ∀ n ∈ l, Sm13 n) : rnR (l.map fun n => mkB (Lib.itoa n)) = (l, true) := by
  have hn : ∀ n ∈ l, numI (mkB (Lib.itoa n)) = (n, true) := fun n hq => num_itoa13 (by have := (h n hq).1; omega) (by have := (h n hq).2; omega)
  rw [rnR_good (fun x hx => by obtain ⟨n, hq, rfl⟩ := List.mem_map.1 hx; rw [hn n hq]), List.map_map]
  congr 1
  conv => rhs; rw [← List.map_id l]
  exact List.map_congr_left fun n hq => by show (numI (mkB (Lib.itoa n))).1 = n; rw [hn n hq]
theorem nbR_wr {wd : ByteArray} {ns : List Int} (h : (32 : UInt8) ∉ wd.data.toList) (hn : ∀ n ∈ ns, Sm13 n) : nbR (mkB (wrT wd ns)) wd = (ns, true) := by
  rw [nbR_of (by rw [pcs_wr h]; rfl), pcs_wr h]
  exact rnR_itoa hn
theorem nbR_wr_no {wd wd' : ByteArray} {ns : List Int} (h : (32 : UInt8) ∉ wd.data.toList) (hw : wd ≠ wd') : nbR (mkB (wrT wd ns)) wd' = ([], false) := nbR_no (by rw [pcs_wr h]; exact hw)
theorem rdB_wr {wd : ByteArray} {ns : List Int} {n : Nat} (h : (32 : UInt8) ∉ wd.data.toList) (hn : ∀ n ∈ ns, Sm13 n) (hl : ns.length = n) : rdB (mkB (wrT wd ns)) wd n = true := by
  unfold rdB; rw [nbR_wr h hn, decide_eq_true hl]; rfl
theorem pore_zero {x : Flw} (h : flwE x = 0) (hk : x.kd = 0) : x.to_.1 = 0 ∧ x.to_.2 = 0 ∧ x.pc = 0 ∧ x.tp = 0 := by
  have hok := flw_ok h
  unfold flwE at h
  rw [if_neg (fun h1 => h1 hok.kd)] at h
  by_cases h2 : flwE0 x ≠ 0
  · rw [if_pos h2] at h; exact absurd h h2
  rw [if_neg h2, if_pos hk] at h
  unfold poreE at h
  have h3 := (when_zero (show (3 : Int) ≠ 0 by decide)).1 h
  simp at h3
  exact ⟨h3.1.1.1, h3.1.1.2, h3.1.2, h3.2⟩
theorem flP_back {x : Flw} (h : flwE x = 0) : flP (flT x) = (x, true) := by
  obtain ⟨⟨k0, k1⟩, ⟨a1, a2⟩, ⟨b1, b2⟩, ⟨c1, c2⟩, hp⟩ := flw_ok h
  by_cases hk : x.kd = 0
  · obtain ⟨z1, z2, z3, z4⟩ := pore_zero h hk
    have hs : ∀ n ∈ flN3 x, Sm13 n := by
      intro n hn
      simp only [flN3, List.mem_cons, List.not_mem_nil, or_false] at hn
      unfold Sm13
      rcases hn with rfl | rfl | rfl <;> omega
    have e : flT x = mkB (wrT porS (flN3 x)) := by unfold flT; rw [if_pos hk]
    rw [e]
    unfold flP
    rw [if_pos (rdB_wr (wd := porS) (n := 3) (by decide) hs rfl), nbR_wr (wd := porS) (by decide) hs]
    obtain ⟨kd, ⟨ax, az⟩, ⟨tx, tz⟩, pc, am, tp⟩ := x
    simp only at hk z1 z2 z3 z4
    subst hk z1 z2 z3 z4
    rfl
  · have hk1 : x.kd = 1 := by omega
    obtain ⟨⟨p1, p2⟩, ⟨p3, p4⟩, ⟨p5, p6⟩, p7, p8⟩ := hp hk
    have hs : ∀ n ∈ flN7 x, Sm13 n := by
      intro n hn
      simp only [flN7, List.mem_cons, List.not_mem_nil, or_false] at hn
      unfold Sm13
      rcases hn with rfl | rfl | rfl | rfl | rfl | rfl | rfl <;> omega
    have e : flT x = mkB (wrT plaS (flN7 x)) := by unfold flT; rw [if_neg hk, if_pos hk1]
    rw [e]
    unfold flP
    rw [if_neg (by unfold rdB; rw [nbR_wr_no (wd := plaS) (by decide) (by decide)]; decide), if_pos (rdB_wr (wd := plaS) (n := 7) (by decide) hs rfl), nbR_wr (wd := plaS) (by decide) hs]
    obtain ⟨kd, ⟨ax, az⟩, ⟨tx, tz⟩, pc, am, tp⟩ := x
    simp only at hk1
    subst hk1
    rfl
theorem pfR_back {x : Flw} (h : flwE x = 0) : pfR (flT x) = (x, 0) := by
  unfold pfR
  rw [flP_back h, if_neg (show ¬ (true = false) by decide), if_neg (fun q => q h)]
theorem flT_not10 (x : Flw) : (10 : UInt8) ∉ (flT x).data.toList := by
  unfold flT
  split
  · rw [data_mkB]; exact wrT_not10 (by decide)
  · split
    · rw [data_mkB]; exact wrT_not10 (by decide)
    · intro h; cases h
theorem prL_not10 (s : Spc) : ∀ l ∈ prL s, (10 : UInt8) ∉ l := by
  intro l hl
  unfold prL prH prE prF at hl
  simp only [List.mem_append, List.mem_cons, List.not_mem_nil, or_false, List.mem_map] at hl
  rcases hl with (((rfl | rfl | rfl) | ⟨p, _, rfl⟩) | rfl) | ⟨x, _, rfl⟩
  · exact wrT_not10 (by decide)
  · exact wrT_not10 (by decide)
  · exact wrT_not10 (by decide)
  · exact wrT_not10 (by decide)
  · exact wrT_not10 (by decide)
  · exact flT_not10 x
theorem upto (P : Nat → Bool) : ∀ N, P N = false → ∃ m, m ≤ N ∧ (∀ i, i < m → P i = true) ∧ P m = false
  | 0, h => ⟨0, Nat.le_refl _, fun i hi => by omega, h⟩
  | N + 1, h => by
    by_cases hq : ∀ i, i < N + 1 → P i = true
    · exact ⟨N + 1, Nat.le_refl _, hq, h⟩
    · have : ∃ i, i < N + 1 ∧ P i = false := by
        apply Classical.byContradiction
        intro hc
        exact hq fun i hi => by
          cases hp : P i with
          | true => rfl
          | false => exact absurd ⟨i, hi, hp⟩ hc
      obtain ⟨i, hi, hp⟩ := this
      obtain ⟨m, m1, m2, m3⟩ := upto (fun q => P q) i hp
      exact ⟨m, by omega, m2, m3⟩
termination_by N => N
theorem ok_mono {t : List UInt8} {k : Nat} (h : okK t (k + 1) = true) : okK t k = true := by
  cases hq : okK t k with
  | true => rfl
  | false =>
    exfalso
    have e : rsN t (k + 1) = [] := by
      show (lnC (rsN t k)).2.1 = []
      rcases lnC_cases (rsN t k) with ⟨h1, _⟩ | ⟨x, r, h1, _, _⟩
      · rw [h1]
      · unfold okK at hq; rw [h1] at hq; cases hq
    exact ok_ne h e
theorem ok_all {t : List UInt8} : ∀ {k : Nat}, okK t k = true → ∀ i, i ≤ k → okK t i = true
  | 0, h, i, hi => by rw [show i = 0 by omega]; exact h
  | k + 1, h, i, hi => by
    by_cases e : i = k + 1
    · rw [e]; exact h
    · exact ok_all (ok_mono h) i (by omega)
theorem ok_end {t : List UInt8} {k : Nat} (h : t.length ≤ k) : okK t k = false := rdB_f fun q => by
  have := ok_len (t := t) (k + 1) fun i hi => ok_all q i (by omega)
  omega
theorem mj_ex (t : List UInt8) : ∃ m j, m ≤ t.length ∧ j ≤ t.length ∧ (∀ i, i < m → eB t (3 + i) = true) ∧ eB t (3 + m) = false ∧ (∀ i, i < j → fB t (4 + m + i) = true) ∧ fB t (4 + m + j) = false := by
  obtain ⟨m, m1, m2, m3⟩ := upto (fun i => eB t (3 + i)) t.length (by unfold eB; rw [ok_end (by omega)]; rfl)
  obtain ⟨j, j1, j2, j3⟩ := upto (fun i => fB t (4 + m + i)) t.length (by unfold fB; rw [ok_end (by omega)]; rfl)
  exact ⟨m, j, m1, j1, m2, m3, j2, j3⟩
theorem flwI_ok {x : Flw} (h : flwE x = 0) : FlwI x := by
  obtain ⟨⟨k0, k1⟩, ⟨a1, a2⟩, ⟨b1, b2⟩, ⟨c1, c2⟩, hp⟩ := flw_ok h
  have q : (-100000 ≤ x.to_.1 ∧ x.to_.1 ≤ 100000) ∧ (-100000 ≤ x.to_.2 ∧ x.to_.2 ≤ 100000) ∧ (0 ≤ x.pc ∧ x.pc ≤ 20) ∧ -1000 ≤ x.tp ∧ x.tp ≤ 1000 := by
    by_cases hk : x.kd = 0
    · obtain ⟨z1, z2, z3, z4⟩ := pore_zero h hk
      omega
    · have := hp hk; omega
  intro n hn
  simp only [flN7, List.mem_cons, List.not_mem_nil, or_false] at hn
  rcases hn with rfl | rfl | rfl | rfl | rfl | rfl | rfl <;> exact ⟨by omega, by omega⟩
theorem bench_pulse {s : Spc} (h : (ckSpc s).2 = 0) : 0 < s.pl.length := by
  unfold ckSpc at h
  by_cases h1 : (ckArr s.ar).2 ≠ 0
  · rw [if_pos h1] at h; exact absurd h h1
  rw [if_neg h1] at h
  by_cases h2 : spcE0 s ≠ 0
  · rw [if_pos h2] at h; exact absurd h h2
  have h3 := Decidable.not_not.1 h2
  unfold spcE0 at h3
  have h4 := (first_zero.1 h3) (plsE s.pl) (by simp)
  unfold plsE at h4
  by_cases h5 : s.pl.length = 0
  · rw [if_pos h5] at h4; cases h4
  · omega
section
variable {s : Spc} (hc : (ckSpc s).2 = 0)
theorem prT_cut (s : Spc) : cutN (prT s).data.toList = prL s ++ [[]] := by unfold prT; rw [data_mkB]; exact cutN_flat (prL_not10 s)
theorem prL_len (s : Spc) : (prL s).length = 4 + s.ar.el.length + s.fl.length := by
  unfold prL prH prE prF
  simp only [List.length_append, List.length_cons, List.length_nil, List.length_map]; omega
theorem pr_line {i : Nat} {l : List UInt8} (h : (prL s)[i]? = some l) : lnK (prT s).data.toList i = mkB l ∧ okK (prT s).data.toList i = true := by
  have hi := (List.getElem?_eq_some_iff.1 h).1
  have hl : (cutN (prT s).data.toList).length = (prL s).length + 1 := by rw [prT_cut, List.length_append]; rfl
  obtain ⟨k1, k2⟩ := ln_at (t := (prT s).data.toList) (i := i) (by omega)
  refine ⟨?_, k2.2 (by omega)⟩
  rw [← k1]
  unfold lnB
  rw [prT_cut, List.getD_eq_getElem?_getD, List.getElem?_append_left hi, h]; rfl
theorem pr_0 : (prL s)[0]? = some (wrT timS (n2 s.ar.ts)) := rfl
theorem pr_1 : (prL s)[1]? = some (wrT outS (mdN s.ar.ou)) := rfl
theorem pr_2 : (prL s)[2]? = some (wrT bacS (mdN s.ar.ba)) := rfl
theorem pr_e {i : Nat} {p : Int × Int} (h : s.ar.el[i]? = some p) : (prL s)[3 + i]? = some (wrT eleS (n2 p)) := by
  have hi := (List.getElem?_eq_some_iff.1 h).1
  have h3 : (prH s).length = 3 := rfl
  have hE : (prE s).length = s.ar.el.length := List.length_map _
  unfold prL
  rw [List.append_assoc, List.append_assoc, List.getElem?_append_right (by omega), h3, show 3 + i - 3 = i by omega, List.getElem?_append_left (by omega)]
  unfold prE
  rw [List.getElem?_map, h]; rfl
theorem pr_p : (prL s)[3 + s.ar.el.length]? = some (wrT pulS s.pl) := by
  have h3 : (prH s).length = 3 := rfl
  have hE : (prE s).length = s.ar.el.length := List.length_map _
  unfold prL
  rw [List.append_assoc, List.append_assoc, List.getElem?_append_right (by omega), h3, List.getElem?_append_right (by omega), hE, show 3 + s.ar.el.length - 3 - s.ar.el.length = 0 by omega]; rfl
theorem pr_f {i : Nat} {x : Flw} (h : s.fl[i]? = some x) : (prL s)[4 + s.ar.el.length + i]? = some (flT x).data.toList := by
  have h3 : (prH s).length = 3 := rfl
  have hE : (prE s).length = s.ar.el.length := List.length_map _
  unfold prL
  rw [List.getElem?_append_right (by simp only [List.length_append, List.length_cons, List.length_nil]; omega)]
  have : 4 + s.ar.el.length + i - (prH s ++ prE s ++ [wrT pulS s.pl]).length = i := by simp only [List.length_append, List.length_cons, List.length_nil]; omega
  rw [this]
  unfold prF
  rw [List.getElem?_map, h]; rfl
theorem map_range {α β : Type} (l : List α) (f : Nat → β) (g : α → β) (h : ∀ (i : Nat) (x : α), l[i]? = some x → f i = g x) : (List.range l.length).map f = l.map g := by
  apply List.ext_getElem?
  intro i
  rw [List.getElem?_map, List.getElem?_map]
  rcases Nat.lt_or_ge i l.length with hi | hi
  · rw [List.getElem?_range hi, List.getElem?_eq_getElem hi]
    show some _ = some _
    rw [h i _ (List.getElem?_eq_getElem hi)]
  · rw [List.getElem?_eq_none (by simpa using hi), List.getElem?_eq_none hi]; rfl
include hc
theorem read_back : (∀ i, i < s.ar.el.length → eB (prT s).data.toList (3 + i) = true) ∧ eB (prT s).data.toList (3 + s.ar.el.length) = false ∧
    (∀ i, i < s.fl.length → fB (prT s).data.toList (4 + s.ar.el.length + i) = true) ∧ fB (prT s).data.toList (4 + s.ar.el.length + s.fl.length) = false ∧ psR (prT s) s.ar.el.length s.fl.length = (s, 0, 0) := by
  have hi := spI_of hc
  have hl : (cutN (prT s).data.toList).length = (prL s).length + 1 := by rw [prT_cut, List.length_append]; rfl
  have hpl := prL_len s
  obtain ⟨l0, o0⟩ := pr_line (pr_0 (s := s))
  obtain ⟨l1, o1⟩ := pr_line (pr_1 (s := s))
  obtain ⟨l2, o2⟩ := pr_line (pr_2 (s := s))
  obtain ⟨lp, op⟩ := pr_line (pr_p (s := s))
  have le : ∀ i, i < s.ar.el.length → ∃ p, s.ar.el[i]? = some p ∧ p ∈ s.ar.el ∧ lnK (prT s).data.toList (3 + i) = mkB (wrT eleS (n2 p)) ∧ okK (prT s).data.toList (3 + i) = true := fun i hq => by
    have h := List.getElem?_eq_getElem hq
    obtain ⟨q1, q2⟩ := pr_line (pr_e (s := s) h)
    exact ⟨_, h, List.getElem_mem hq, q1, q2⟩
  have lf : ∀ i, i < s.fl.length → ∃ x, s.fl[i]? = some x ∧ flwE x = 0 ∧ lnK (prT s).data.toList (4 + s.ar.el.length + i) = flT x ∧ okK (prT s).data.toList (4 + s.ar.el.length + i) = true := fun i hq => by
    have h := List.getElem?_eq_getElem hq
    obtain ⟨q1, q2⟩ := pr_line (pr_f (s := s) h)
    rw [mkB_data] at q1
    exact ⟨_, h, fl_zero hc _ (List.getElem_mem hq), q1, q2⟩
  have n0 := nbR_wr (wd := timS) (ns := n2 s.ar.ts) (by decide) hi.ts
  have n1 := nbR_wr (wd := outS) (ns := mdN s.ar.ou) (by decide) hi.ou
  have n2_ := nbR_wr (wd := bacS) (ns := mdN s.ar.ba) (by decide) hi.ba
  have np := nbR_wr (wd := pulS) (ns := s.pl) (by decide) hi.pl
  have d0 : rdB (mkB (wrT timS (n2 s.ar.ts))) timS 2 = true := rdB_wr (wd := timS) (n := 2) (by decide) hi.ts rfl
  have hb0 : hB (prT s).data.toList 0 = true := by
    unfold hB
    rw [o0, l0, Bool.true_and]
    exact d0
  have d1 : rdB (mkB (wrT outS (mdN s.ar.ou))) outS 4 = true := rdB_wr (wd := outS) (n := 4) (by decide) hi.ou rfl
  have hb1 : hB (prT s).data.toList 1 = true := by
    unfold hB
    rw [o1, l1, Bool.true_and]
    exact d1
  have d2 : rdB (mkB (wrT bacS (mdN s.ar.ba))) bacS 4 = true := rdB_wr (wd := bacS) (n := 4) (by decide) hi.ba rfl
  have hb2 : hB (prT s).data.toList 2 = true := by
    unfold hB
    rw [o2, l2, Bool.true_and]
    exact d2
  have hu : uB (prT s).data.toList (3 + s.ar.el.length) = true := by
    unfold uB puB
    rw [op, lp, np, decide_eq_true (bench_pulse hc)]; rfl
  have hend : rsN (prT s).data.toList (4 + s.ar.el.length + s.fl.length) = [] := by
    have e := ln_last (t := (prT s).data.toList) (n := 4 + s.ar.el.length + s.fl.length) (by omega)
    unfold lnB at e
    rw [prT_cut, List.getD_eq_getElem?_getD, List.getElem?_append_right (by omega), hpl, Nat.sub_self] at e
    exact (mkB_inj (show mkB [] = mkB _ from e)).symm
  have hn0 : hn (prT s).data.toList 0 = n2 s.ar.ts := by unfold hn; rw [l0]; exact congrArg Prod.fst n0
  have hn1 : hn (prT s).data.toList 1 = mdN s.ar.ou := by unfold hn; rw [l1]; exact congrArg Prod.fst n1
  have hn2 : hn (prT s).data.toList 2 = mdN s.ar.ba := by unfold hn; rw [l2]; exact congrArg Prod.fst n2_
  refine ⟨fun i hq => ?_, ?_, fun i hq => ?_, ok_nil hend, ?_⟩
  · obtain ⟨p, _, hp, q1, q2⟩ := le i hq
    have d := rdB_wr (wd := eleS) (ns := n2 p) (n := 2) (by decide) (hi.el p hp) rfl
    unfold eB
    rw [q2, q1, d]; rfl
  · unfold eB
    rw [op, lp]
    unfold rdB
    rw [nbR_wr_no (by decide) (by decide)]; rfl
  · obtain ⟨x, _, hx, q1, q2⟩ := lf i hq
    unfold fB
    rw [q2, q1, flP_back hx]; rfl
  · have hsp : spR (prT s).data.toList s.ar.el.length s.fl.length = (c13 (prT s).data.toList s.ar.el.length (plD (prT s).data.toList (3 + s.ar.el.length)) (.sl 8 (fsJ (prT s).data.toList (4 + s.ar.el.length) s.fl.length)), true, 4 + s.ar.el.length + s.fl.length) := by
      unfold spR
      rw [if_neg (by rw [hb0]; decide), if_neg (by rw [hb1]; decide), if_neg (by rw [hb2]; decide), if_neg (by rw [hu]; decide), if_pos hend]
    have hS : spS (prT s).data.toList s.ar.el.length s.fl.length = s := by
      unfold spS
      rw [hn0, hn1, hn2, lp, np, map_range s.ar.el _ id (fun i p hp => by
        obtain ⟨p', hp', _, q1, _⟩ := le i (List.getElem?_eq_some_iff.1 hp).1
        rw [hp] at hp'; cases hp'
        unfold elK
        rw [q1, nbR_wr (by decide) (hi.el p (List.mem_of_getElem? hp))]; rfl), map_range s.fl _ id (fun i x hx => by
        obtain ⟨x', hx', h0, q1, _⟩ := lf i (List.getElem?_eq_some_iff.1 hx).1
        rw [hx] at hx'; cases hx'
        rw [q1, flP_back h0]; rfl), List.map_id, List.map_id]
      rfl
    have hsz : ¬ 60000 < (prT s).size := by
      obtain ⟨a1, a2, a3, a4⟩ := prE_i hi fun x hx => flwI_ok (fl_zero hc x hx)
      have := sz_flat (X := prL s) (n := 30) (len_app (len_app (len_app a1 a2) (Y := [wrT pulS s.pl]) (by simpa using a3)) a4) (by rw [hpl]; have := hi.n1; have := hi.n3; omega)
      unfold prT; omega
    unfold psR
    rw [if_neg hsz, hsp, if_neg (show ¬ (true = false) by decide), hS, if_neg (fun q => q hc)]
end
end Go.Proofs.YtkbdnkjjklbddaaGreatDoor.Am.M
