/- Contracts over the abstract machine: what is written is read again; FocusTexts. Conditions: none. -/
import Derived.Test.YtcdccdcbfbakfaaGreatDoorV8
set_option linter.unusedVariables false
set_option linter.unusedSimpArgs false
-- mini
namespace Go.Proofs.YtcdccdcbfbakfaaGreatDoor.Am.M
open Go
theorem dd_len18 {u : Nat} (h : u ≤ 999999999999999999) : (Lib.decDigits u).length ≤ 18 := by
  rw [Lib.decDigits_length]
  rcases Nat.lt_or_ge u 10 with h1 | h1
  · rw [Lib.nDigits_small h1]; omega
  · rcases Nat.lt_or_ge 18 (Lib.nDigits u) with q | q
    · exfalso
      have hp : ∀ k : Nat, ∀ u : Nat, k + 1 ≤ Lib.nDigits u → k = 0 ∨ 10 ^ k ≤ u := by
        intro k
        induction k with
        | zero => intro u _; exact .inl rfl
        | succ k ih =>
          intro u hu
          right
          by_cases hs : u < 10
          · rw [Lib.nDigits_small hs] at hu; omega
          · rw [Lib.nDigits_big hs] at hu
            rw [Nat.pow_succ]
            rcases ih (u / 10) (by omega) with e | e
            · subst e; simp; omega
            · omega
      rcases hp 18 u (by omega) with e | e
      · cases e
      · have : (10 : Nat) ^ 18 = 1000000000000000000 := by decide
        omega
    · exact q
theorem num_itoa18 {n : Int} (h0 : -999999999999999999 ≤ n) (h1 : n ≤ 999999999999999999) : numI (mkB (Lib.itoa n)) = (n, true) := by
  have hl := dd_len18 (u := n.natAbs) (by omega)
  obtain ⟨b, r, e1, e2, e3, e4⟩ := dd_head n.natAbs
  have hb45 : b ≠ 45 := fun e => by rw [e] at e2; exact absurd e2 (by decide)
  by_cases hs : n < 0
  · have hi : Lib.itoa n = 45 :: Lib.decDigits n.natAbs := by unfold Lib.itoa; rw [if_pos hs]
    have hn : negL (Lib.itoa n) = true := by rw [hi]; rfl
    have hd : digL (Lib.itoa n) = Lib.decDigits n.natAbs := by unfold digL; rw [hn, hi]; rfl
    have hb : ¬ badL (Lib.itoa n) := by
      unfold badL
      rw [hd]
      rintro (q | q | ⟨q, k⟩)
      · rw [e1] at q; cases q
      · omega
      · rw [e1] at q
        have := (e4 (by simpa using q)).1
        omega
    have hm : nmL (Lib.itoa n) = (n, true) := by
      unfold nmL
      rw [if_neg hb, hd, dec_digits, hn]
      show (-(n.natAbs : Int), true) = _
      rw [show -(n.natAbs : Int) = n by omega]
    rw [num_up (by rw [data_mkB, hm]), data_mkB, hm]
  · have hi : Lib.itoa n = Lib.decDigits n.natAbs := by unfold Lib.itoa; rw [if_neg hs, show n.toNat = n.natAbs by omega]
    have hn : negL (Lib.itoa n) = false := by unfold negL; rw [hi, e1]; simpa using hb45
    have hd : digL (Lib.itoa n) = Lib.decDigits n.natAbs := by unfold digL; rw [hn, hi]; rfl
    have hb : ¬ badL (Lib.itoa n) := by
      unfold badL
      rw [hd]
      rintro (q | q | ⟨q, k⟩)
      · rw [e1] at q; cases q
      · omega
      · rw [hi, e1] at k
        rw [e1] at q
        have := (e4 (by simpa using q)).2
        rw [this] at k; simp at k
    have hm : nmL (Lib.itoa n) = (n, true) := by
      unfold nmL
      rw [if_neg hb, hd, dec_digits, hn]
      show ((n.natAbs : Int), true) = _
      rw [show (n.natAbs : Int) = n by omega]
    rw [num_up (by rw [data_mkB, hm]), data_mkB, hm]

theorem dig_not10 {u : Nat} : (10 : UInt8) ∉ Lib.decDigits u := by
  intro h
  obtain ⟨k, hk⟩ := List.getElem?_of_mem h
  obtain ⟨d, hd⟩ := Lib.digit_of_decFrom _ 0 u (dec_digits u) k 10 hk
  have := (Lib.digitVal_eq hd).1
  exact absurd this (by decide)
theorem itoa_not10 (n : Int) : (10 : UInt8) ∉ Lib.itoa n := by
  unfold Lib.itoa
  split
  · intro h
    rcases List.mem_cons.1 h with e | e
    · exact absurd e (by decide)
    · exact dig_not10 e
  · exact dig_not10
theorem jt_not10 : ∀ {r : List (List UInt8)}, (∀ y ∈ r, (10 : UInt8) ∉ y) → (10 : UInt8) ∉ Lib.joinTail [32] r
  | [], _ => by simp [Lib.joinTail]
  | a :: r, h => by
    show (10 : UInt8) ∉ [32] ++ a ++ Lib.joinTail [32] r
    have h1 := h a (by simp)
    have h2 := jt_not10 (r := r) fun y hy => h y (by simp [hy])
    simp only [List.mem_append, List.mem_singleton, not_or]
    exact ⟨⟨by decide, h1⟩, h2⟩
theorem jn_not10 (l : List Int) : (10 : UInt8) ∉ jnI l := by
  cases l with
  | nil => intro h; cases h
  | cons n r =>
    rw [jnI_cons]
    simp only [List.mem_append, not_or]
    exact ⟨itoa_not10 n, jt_not10 fun y hy => by obtain ⟨m, _, rfl⟩ := List.mem_map.1 hy; exact itoa_not10 m⟩
theorem cutN_line {x : List UInt8} (h : 10 ∉ x) : cutN (x ++ [10]) = [x, []] := by
  rw [cutN_app h]
  show (x ++ []) :: [[]] = _
  rw [List.append_nil]
theorem cutN_more (b : List UInt8) : ∀ (a : List UInt8) (Z : List (List UInt8)), cutN a = Z ++ [[]] → cutN (a ++ b) = Z ++ cutN b
  | [], Z, h => by
    have h : [[]] = Z ++ [[]] := h
    cases Z with
    | nil => rfl
    | cons z Z => have := congrArg List.length h; simp at this
  | c :: a, Z, h => by
    by_cases hc : c = 10
    · have e : cutN (c :: a) = [] :: cutN a := by show (if c = 10 then [] :: cutN a else hdL [c] (cutN a)) = _; rw [if_pos hc]
      rw [e] at h
      cases Z with
      | nil => exact absurd (List.cons.inj h).2 (cutN_ne a)
      | cons z Z =>
        obtain ⟨h1, h2⟩ := List.cons.inj h
        have ih := cutN_more b a Z h2
        show (if c = 10 then [] :: cutN (a ++ b) else hdL [c] (cutN (a ++ b))) = _
        rw [if_pos hc, ih, h1]; rfl
    · have e : cutN (c :: a) = hdL [c] (cutN a) := by show (if c = 10 then [] :: cutN a else hdL [c] (cutN a)) = _; rw [if_neg hc]
      rw [e] at h
      cases hq : cutN a with
      | nil => exact absurd hq (cutN_ne a)
      | cons y ys =>
        rw [hq] at h
        have h : ([c] ++ y) :: ys = Z ++ [[]] := h
        cases Z with
        | nil => have := (List.cons.inj h).1; simp at this
        | cons z Z =>
          obtain ⟨h1, h2⟩ := List.cons.inj h
          have ih := cutN_more b a (y :: Z) (by rw [hq, h2]; rfl)
          show (if c = 10 then [] :: cutN (a ++ b) else hdL [c] (cutN (a ++ b))) = _
          rw [if_neg hc, ih, ← h1]; rfl
def flT (g : Grd) : List UInt8 := [103, 114, 105, 100, 32] ++ jnI [g.fx, g.fz, g.co, g.ro, g.st]
theorem cut_prT (g : Grd) (l : List Int) : ∀ k, cutN (prT g l k) = (flT g :: (List.range k).map fun i => jnI (ckI l g.co.toNat i)) ++ [[]]
  | 0 => by
    show cutN (flT g ++ [10]) = _
    rw [cutN_line]
    · rfl
    · unfold flT
      simp only [List.mem_append, not_or]
      exact ⟨by decide, jn_not10 _⟩
  | k + 1 => by
    show cutN (prT g l k ++ (jnI (ckI l g.co.toNat k) ++ [10])) = _
    rw [cutN_more _ _ _ (cut_prT g l k), cutN_line (jn_not10 _), List.range_succ, List.map_append]
    simp
theorem pcs_jn {l : List Int} (h : l ≠ []) : pcs (mkB (jnI l)) = l.map fun n => mkB (Lib.itoa n) := by
  cases l with
  | nil => exact absurd rfl h
  | cons n r =>
    rw [pcs_cut, data_mkB, jnI_cons, cut_join (itoa_not n) (fun y hy => by obtain ⟨m, _, rfl⟩ := List.mem_map.1 hy; exact itoa_not m), List.map_cons, List.map_map]; rfl
theorem pcs_fl (g : Grd) : pcs (mkB (flT g)) = grdS :: [g.fx, g.fz, g.co, g.ro, g.st].map fun n => mkB (Lib.itoa n) := by
  have e : flT g = [103, 114, 105, 100] ++ Lib.joinTail [32] ([g.fx, g.fz, g.co, g.ro, g.st].map Lib.itoa) := by
    unfold flT
    rw [jnI_cons]; simp [Lib.joinTail]
  rw [pcs_cut, data_mkB, e, cut_join (by decide) (fun y hy => by obtain ⟨m, _, rfl⟩ := List.mem_map.1 hy; exact itoa_not m), List.map_cons, List.map_map]; rfl
def Sm18 (n : Int) : Prop := -999999999999999999 ≤ n ∧ n ≤ 999999999999999999
theorem numR_itoa {l : List Int} (h : ∀ n ∈ l, Sm18 n) {c : Int} (hc : (l.length : Int) = c) : numR (l.map fun n => mkB (Lib.itoa n)) c = (l, true) := by
  have hn : ∀ n ∈ l, numI (mkB (Lib.itoa n)) = (n, true) := fun n hq => num_itoa18 (h n hq).1 (h n hq).2
  rw [numR_good (by rw [List.length_map]; exact hc) (fun x hx => by obtain ⟨n, hq, rfl⟩ := List.mem_map.1 hx; rw [hn n hq]), List.map_map]
  congr 1
  conv => rhs; rw [← List.map_id l]
  exact List.map_congr_left fun n hq => by show (numI (mkB (Lib.itoa n))).1 = n; rw [hn n hq]
theorem rows_all (l : List Int) (n : Nat) : ∀ m, n * m ≤ l.length → ((List.range m).flatMap fun i => ckI l n i) = l.take (n * m)
  | 0, _ => by simp
  | m + 1, h => by
    have h1 : n * (m + 1) = n * m + n := Nat.mul_succ n m
    rw [List.range_succ, List.flatMap_append, rows_all l n m (by omega), h1]
    simp only [List.flatMap_cons, List.flatMap_nil, List.append_nil]
    have e := List.take_append_drop (n * m) (l.take (n * m + n))
    rw [List.take_take, Nat.min_eq_left (by omega)] at e
    exact e
theorem grd_sm {g : Grd} (h : GrdOk g) : ∀ n ∈ [g.fx, g.fz, g.co, g.ro, g.st], Sm18 n := by
  obtain ⟨x1, x2, z1, z2, c1, c2, r1, r2, s1, s2⟩ := h
  intro n hn
  simp only [List.mem_cons, List.not_mem_nil, or_false] at hn
  unfold Sm18
  rcases hn with rfl | rfl | rfl | rfl | rfl <;> omega
theorem read_backP {g : Grd} {l : List Int} (h0 : ofE g l = 0) : psR (mkB (prT g l g.ro.toNat)) = ⟨g, l, 0, 0⟩ := by
  obtain ⟨hfk, -⟩ := of_ok h0
  have hg := hfk.gr
  have hfl := fld_len hfk
  have c1 := hg.c1
  have c2 := hg.c2
  have r1 := hg.r1
  have r2 := hg.r2
  have hcoN : ((g.co.toNat : Nat) : Int) = g.co := Int.toNat_of_nonneg (by omega)
  have hL : cutN (mkB (prT g l g.ro.toNat)).data.toList = (flT g :: (List.range g.ro.toNat).map fun i => jnI (ckI l g.co.toNat i)) ++ [[]] := by rw [data_mkB, cut_prT]
  have hlen : (cutN (mkB (prT g l g.ro.toNat)).data.toList).length = g.ro.toNat + 2 := by rw [hL]; simp
  have hsz := prT_len hfk g.ro.toNat (Nat.le_refl _)
  have hlg : ¬ 60000 < (mkB (prT g l g.ro.toNat)).size := by rw [mkB_size]; omega
  have hhd : hdR (mkB (prT g l g.ro.toNat)) = (g, true) := by
    have e0 : lnB (cutN (mkB (prT g l g.ro.toNat)).data.toList) 0 = mkB (flT g) := by unfold lnB; rw [hL]; rfl
    have e1 : (pcs (mkB (flT g))).drop 1 = [g.fx, g.fz, g.co, g.ro, g.st].map fun n => mkB (Lib.itoa n) := by rw [pcs_fl]; rfl
    have e2 : (pcs (mkB (flT g))).getD 0 ⟨#[]⟩ = grdS := by rw [pcs_fl]; rfl
    have e3 := numR_itoa (grd_sm hg) (c := 5) rfl
    unfold hdR gdR
    rw [e0, if_pos, e1, e3]
    · rfl
    · unfold gdB
      rw [e1, e3, e2, decide_eq_true rfl]
      show (true && (true && (inR 1 g.co 40 && inR 1 g.ro 40))) = true
      rw [inR_iff.2 ⟨c1, c2⟩, inR_iff.2 ⟨r1, r2⟩]; rfl
  have hrow : ∀ i, i < g.ro.toNat → rwR g (cutN (mkB (prT g l g.ro.toNat)).data.toList) (i + 1) = (ckI l g.co.toNat i, true) := fun i hi => by
    have e0 : lnB (cutN (mkB (prT g l g.ro.toNat)).data.toList) (i + 1) = mkB (jnI (ckI l g.co.toNat i)) := by
      unfold lnB
      rw [hL, List.getD_eq_getElem?_getD, List.cons_append, List.getElem?_cons_succ, List.getElem?_append_left (by simpa using hi), List.getElem?_map, List.getElem?_range hi]; rfl
    have hcl := ckI_len hfl hi
    unfold rwR
    rw [e0, pcs_jn (fun e => by rw [e] at hcl; simp at hcl; omega)]
    exact numR_itoa (fun n hn => by have := hfk.pw n (ckI_mem hn); unfold Sm18; omega) (by rw [hcl]; exact hcoN)
  have hgood : ∀ j, 1 ≤ j → j < 1 + g.ro.toNat → rwBad g (cutN (mkB (prT g l g.ro.toNat)).data.toList) j = false := fun j h1 h2 => by
    obtain ⟨i, rfl⟩ : ∃ i, j = i + 1 := ⟨j - 1, by omega⟩
    unfold rwBad
    rw [hrow i (by omega), hlen, decide_eq_false (by omega)]; rfl
  have hps : psP g (cutN (mkB (prT g l g.ro.toNat)).data.toList) g.ro.toNat = l := by
    unfold psP
    rw [show ((List.range g.ro.toNat).flatMap fun i => (rwR g (cutN (mkB (prT g l g.ro.toNat)).data.toList) (i + 1)).1) = (List.range g.ro.toNat).flatMap fun i => ckI l g.co.toNat i from by
      rw [List.flatMap_def, List.flatMap_def]
      congr 1
      exact List.map_congr_left fun i hi => by rw [hrow i (List.mem_range.1 hi)], rows_all l _ _ (by omega), ← hfl, List.take_length]
  have h1 : (hdR (mkB (prT g l g.ro.toNat))).1 = g := by rw [hhd]
  rw [psR_ok hlg (fun q => by rw [hhd, hlen] at q; rcases q with q | q <;> first | omega | cases q) (by rw [h1]; exact hgood) (by
    rw [h1]
    refine ⟨hlen, ?_⟩
    rw [hL, List.getD_eq_getElem?_getD, List.getElem?_append_right (by simp)]
    simp) (by rw [h1, hps]; exact h0), h1, hps]
theorem ppT_size (g : Grd) (l : List Int) : (ppT g l).size ≤ 100000 := by
  unfold ppT
  split
  · exact Nat.zero_le _
  · rename_i h
    obtain ⟨hfk, -⟩ := of_ok (Decidable.not_not.1 h)
    have h1 := prT_len hfk g.ro.toNat (Nat.le_refl _)
    have r2 := hfk.gr.r2
    rw [mkB_size]; omega

theorem eqi25 : EqI Tryz.prog 25 5 := by
  intro xs ys hx hy w
  match xs, ys, hx, hy with
  | [a0, a1, a2, a3, a4], [b0, b1, b2, b3, b4], _, _ =>
    refine ⟨fun x y => run_eqGuard_agg w .eql 25 x y _ _ (by kernel_rfl), fun x y => run_eqGuard_agg w .neq 25 x y _ _ (by kernel_rfl), ?_⟩
    have hf : (Tryz.prog.fieldsOf 25).toList = [⟨ "From", 23, 0, false, "", "", 0⟩, ⟨ "Columns", 3, 2, false, "", "", 16⟩, ⟨ "Rows", 3, 3, false, "", "", 24⟩, ⟨ "Step", 3, 4, false, "", "", 32⟩] := by kernel_rfl
    rw [show (10000 : Nat) = 9998 + 1 + 1 from rfl, run_equalIn_struct w (9998 + 1) 25 _ _ (by kernel_rfl) (by kernel_rfl), hf]
    have u3 := Tryz.underlying3
    have u23 := Tryz.underlying23
    have hl := eq38_low a0 a1 b0 b1 w
    simp only [iW] at hl
    simp [Op.eqFields, part, isAgg, run_underlying u3, run_underlying u23, iW, run_equalIn_int, u3, Result.andThen, hl]
    (repeat' split) <;> simp_all
set_option maxHeartbeats 4000000 in
theorem focusTexts_p (g : Grd) (l : List Int) (s : ByteArray) : PCG Tryz.prog GW 3 [.agg (grdC g), .sl 1 (l.map iC), .v (.string (s))] (.v (.bool (true))) := by
  refine pcg_of_awpN gw_keep Tryz.func3 rfl Tryz.ntmps3 (rs := [.tmp 6]) Tryz.results3 (by simp) fun w0 hmine hrnd hpn hG => ?_
  refine awp_seq ?_
  refine awp_region 2 mixed (by kernel_rfl) ?_
  refine rg_q (q_box rfl (by exact .inr ⟨_, rfl⟩)) ?_
  refine rg_q (q_assign (x := .d (.v _)) rfl) ?_
  refine rg_nil ?_
  refine aops_nil ?_
  change Awp _ _ _ _ _
  refine awp_seq ?_
  refine awp_seq ?_
  refine awp_region 2 mixed (by kernel_rfl) ?_
  refine rg_q (q_call en4 .nil rfl (awake5_p)) ?_
  refine rg_q (q_not rfl) ?_
  refine rg_nil ?_
  refine aops_nil ?_
  change Awp _ _ _ _ _
  refine awp_cond rfl (fun hc1 => ?_) (fun hc1 => ?_)
  ·
    simp at hc1
  ·
    (try simp only [nb, ne_eq] at hc1)
    refine awp_skip ?_
    change Awp _ _ _ _ _
    refine awp_seq ?_
    refine awp_seq ?_
    refine awp_region 23 mixed (by kernel_rfl) ?_
    refine rg_q (q_loadA (ds := [_, _, _, _, _]) sz25 rfl rfl rfl) ?_
    refine rg_q (q_call en5 (.cons rfl .nil) rfl (small_p _)) ?_
    refine rg_q (q_not rfl) ?_
    refine rg_q (q_move (x := .d (.v _)) rfl) ?_
    refine rg_g rfl rfl (fun hG => (q_move (x := .d (.sl _ _)) rfl)) ?_
    refine rg_g rfl rfl (fun hG => (q_len isl26 rfl (by exact len_map _ _))) ?_
    refine rg_g rfl rfl (fun hG => (q_gtr rfl rfl)) ?_
    refine rg_pick rfl rfl rfl rfl rfl rfl ?_
    refine rg_q (q_move (x := .d (.v _)) rfl) ?_
    refine rg_g rfl rfl (fun hG => (q_move (x := .d (.v _)) rfl)) ?_
    refine rg_g rfl rfl (fun hG => (q_len_str str9 rfl)) ?_
    refine rg_g rfl rfl (fun hG => (q_gtr rfl rfl)) ?_
    refine rg_g rfl rfl (fun hG => (q_move (x := .d (.v _)) rfl)) ?_
    refine rg_g rfl rfl (fun hG => (q_move (x := .d (.v _)) rfl)) ?_
    refine rg_g rfl rfl (fun hG => (q_len_str str9 rfl)) ?_
    refine rg_g rfl rfl (fun hG => (q_leq rfl rfl)) ?_
    refine rg_pickg rfl rfl rfl rfl rfl rfl rfl rfl ?_
    refine rg_pick rfl rfl rfl rfl rfl rfl ?_
    refine rg_q (q_move (x := .d (.v _)) rfl) ?_
    refine rg_g rfl rfl (fun hG => (q_move (x := .d (.v _)) rfl)) ?_
    refine rg_g rfl rfl (fun hG => (q_len_str str9 rfl)) ?_
    refine rg_g rfl rfl (fun hG => (q_gtr rfl rfl)) ?_
    refine rg_pick rfl rfl rfl rfl rfl rfl ?_
    refine rg_nil ?_
    refine aops_nil ?_
    change Awp _ _ _ _ _
    refine awp_cond rfl (fun hc3 => ?_) (fun hc3 => ?_)
    ·
      (try simp only [nb, ne_eq] at hc3)
      refine awp_seq ?_
      refine awp_region 1 mixed (by kernel_rfl) ?_
      refine rg_q (q_assign (x := .d (.v _)) rfl) ?_
      refine rg_nil ?_
      refine aops_nil ?_
      change Awp _ _ _ _ _
      refine awp_ret ?_
      refine ⟨_, (.cons (.tmp (by exact .d _)) .nil), ?_⟩
      rfl
    ·
      (try simp only [nb, ne_eq] at hc3)
      have hs : s.size ≤ 60050 := by obtain ⟨_, q⟩ := hc3; omega
      refine awp_skip ?_
      change Awp _ _ _ _ _
      refine awp_seq ?_
      refine awp_region 9 mixed (by kernel_rfl) ?_
      refine rg_q (q_loadA (ds := [_, _, _, _, _]) sz25 rfl rfl rfl) ?_
      refine rg_q (q_move (x := .d (.sl _ _)) rfl) ?_
      refine rg_q (q_call en7 (.cons rfl .nil) rfl (copyInts5_p _ (by omega))) ?_
      refine rg_q (q_callG en6 (.cons rfl (.cons rfl .nil)) rfl hG (printPowers_p g l)) ?_
      refine rg_q (q_move (x := .d (.tup _)) rfl) ?_
      refine rg_q (q_extract rfl rfl) ?_
      refine rg_q (q_extract rfl rfl) ?_
      refine rg_q (q_assign (x := .d (.v _)) rfl) ?_
      refine rg_q (q_assign (x := .d (.v _)) rfl) ?_
      refine rg_nil ?_
      refine aops_nil ?_
      change Awp _ _ _ _ _
      refine awp_seq ?_
      refine awp_seq ?_
      refine awp_region 4 mixed (by kernel_rfl) ?_
      refine rg_q (q_loadA (ds := [_, _, _, _, _]) sz25 rfl rfl rfl) ?_
      refine rg_q (q_move (x := .d (.sl _ _)) rfl) ?_
      refine rg_q (q_call en8 (.cons rfl (.cons rfl .nil)) rfl (rpowersErr_p _ _)) ?_
      refine rg_q (q_assign (x := .d (.v _)) rfl) ?_
      refine rg_nil ?_
      refine aops_nil ?_
      change Awp _ _ _ _ _
      refine awp_seq ?_
      refine awp_region 2 mixed (by kernel_rfl) ?_
      refine rg_q (q_move (x := .d (.v _)) rfl) ?_
      refine rg_q (q_neq rfl rfl) ?_
      refine rg_nil ?_
      refine aops_nil ?_
      change Awp _ _ _ _ _
      refine awp_cond rfl (fun hc7 => ?_) (fun hc7 => ?_)
      ·
        (try simp only [nb, ne_eq] at hc7)
        have hpe : ppT g l = ⟨#[]⟩ := by unfold ppT; rw [if_pos hc7]
        refine awp_seq ?_
        refine awp_region 7 mixed (by kernel_rfl) ?_
        refine rg_q (q_move (x := .d (.v _)) rfl) ?_
        refine rg_q (q_move (x := .d (.v _)) rfl) ?_
        refine rg_q (q_neq rfl rfl) ?_
        refine rg_q (q_move (x := .d (.v _)) rfl) ?_
        refine rg_g rfl rfl (fun hG => (q_move (x := .d (.v _)) rfl)) ?_
        refine rg_g rfl rfl (fun hG => (q_neqs rfl rfl)) ?_
        refine rg_pick rfl rfl rfl rfl rfl rfl ?_
        refine rg_nil ?_
        refine aops_nil ?_
        change Awp _ _ _ _ _
        refine awp_cond rfl (fun hc8 => ?_) (fun hc8 => ?_)
        ·
          simp [hpe] at hc8
        ·
          (try simp only [nb, ne_eq] at hc8)
          refine awp_skip ?_
          change Awp _ _ _ _ _
          refine awp_seq ?_
          refine awp_region 7 mixed (by kernel_rfl) ?_
          refine rg_q (q_move (x := .d (.v _)) rfl) ?_
          refine rg_q (q_callG en9 (.cons rfl .nil) rfl hG (parsePowers_p s (by omega))) ?_
          refine rg_q (q_move (x := .d (.tup _)) rfl) ?_
          refine rg_q (q_extract rfl rfl) ?_
          refine rg_q (q_extract rfl rfl) ?_
          refine rg_q (q_extract rfl rfl) ?_
          refine rg_q (q_extract rfl rfl) ?_
          refine rg_nil ?_
          refine aops_allocD zr25 rfl sz25 rfl rfl (by exact .inr ⟨_, rfl⟩) rfl rfl ?_
          refine aops_q rfl (q_assign (x := .d (.sl _ _)) rfl) ?_
          refine aops_q rfl (q_assign (x := .d (.v _)) rfl) ?_
          refine aops_q rfl (q_assign (x := .d (.v _)) rfl) ?_
          refine aops_nil ?_
          change Awp _ _ _ _ _
          refine awp_seq ?_
          refine awp_region 7 mixed (by kernel_rfl) ?_
          refine rg_q (q_move (x := .d (.v _)) rfl) ?_
          refine rg_q (q_call en12 (.cons rfl .nil) rfl (rparsePowers_p s (by omega))) ?_
          refine rg_q (q_move (x := .d (.tup _)) rfl) ?_
          refine rg_q (q_extract rfl rfl) ?_
          refine rg_q (q_extract rfl rfl) ?_
          refine rg_q (q_extract rfl rfl) ?_
          refine rg_q (q_extract rfl rfl) ?_
          refine rg_nil ?_
          refine aops_allocD zr25 rfl sz25 rfl rfl (by exact .inr ⟨_, rfl⟩) rfl rfl ?_
          refine aops_q rfl (q_assign (x := .d (.sl _ _)) rfl) ?_
          refine aops_q rfl (q_assign (x := .d (.v _)) rfl) ?_
          refine aops_q rfl (q_assign (x := .d (.v _)) rfl) ?_
          refine aops_nil ?_
          change Awp _ _ _ _ _
          refine awp_seq ?_
          refine awp_region 19 mixed (by kernel_rfl) ?_
          refine rg_q (q_move (x := .d (.v _)) rfl) ?_
          refine rg_q (q_move (x := .d (.v _)) rfl) ?_
          refine rg_q (q_eql rfl rfl) ?_
          refine rg_q (q_move (x := .d (.v _)) rfl) ?_
          refine rg_g rfl rfl (fun hG => (q_move (x := .d (.v _)) rfl)) ?_
          refine rg_g rfl rfl (fun hG => (q_move (x := .d (.v _)) rfl)) ?_
          refine rg_g rfl rfl (fun hG => (q_eql rfl rfl)) ?_
          refine rg_pick rfl rfl rfl rfl rfl rfl ?_
          refine rg_q (q_move (x := .d (.v _)) rfl) ?_
          refine rg_g rfl rfl (fun hG => (q_loadA (ds := [_, _, _, _, _]) sz25 rfl rfl rfl)) ?_
          refine rg_g rfl rfl (fun hG => (q_loadA (ds := [_, _, _, _, _]) sz25 rfl rfl rfl)) ?_
          refine rg_g rfl rfl (fun hG => (q_eqlI (xs := [_, _, _, _, _]) (ys := [_, _, _, _, _]) eqi25 rfl rfl rfl rfl)) ?_
          refine rg_pick rfl rfl rfl rfl rfl rfl ?_
          refine rg_q (q_move (x := .d (.v _)) rfl) ?_
          refine rg_g rfl rfl (fun hG => (q_move (x := .d (.sl _ _)) rfl)) ?_
          refine rg_g rfl rfl (fun hG => (q_move (x := .d (.sl _ _)) rfl)) ?_
          refine rg_g rfl rfl (fun hG => (q_call en11 (.cons rfl (.cons rfl .nil)) rfl (ints5_p (psR s).pw (psR s).pw))) ?_
          refine rg_pick rfl rfl rfl rfl rfl rfl ?_
          refine rg_q (q_assign (x := .d (.v _)) rfl) ?_
          refine rg_nil ?_
          refine aops_nil ?_
          change Awp _ _ _ _ _
          refine awp_ret ?_
          refine ⟨_, (.cons (.tmp (by exact .d _)) .nil), ?_⟩
          simp [retD]
      ·
        (try simp only [nb, ne_eq] at hc7)
        have h0 : ofE g l = 0 := by simpa using hc7
        obtain ⟨hfk, -⟩ := of_ok h0
        have hpp : ppT g l = mkB (prT g l g.ro.toNat) := by unfold ppT; rw [if_neg (fun q => q h0)]
        have hrb : psR (ppT g l) = ⟨g, l, 0, 0⟩ := by rw [hpp]; exact read_backP h0
        refine awp_seq ?_
        refine awp_region 7 mixed (by kernel_rfl) ?_
        refine rg_q (q_move (x := .d (.v _)) rfl) ?_
        refine rg_q (q_callG en9 (.cons rfl .nil) rfl hG ((by have q := parsePowers_p (ppT g l) (ppT_size g l); rw [hrb] at q; exact q))) ?_
        refine rg_q (q_move (x := .d (.tup _)) rfl) ?_
        refine rg_q (q_extract rfl rfl) ?_
        refine rg_q (q_extract rfl rfl) ?_
        refine rg_q (q_extract rfl rfl) ?_
        refine rg_q (q_extract rfl rfl) ?_
        refine rg_nil ?_
        refine aops_allocD zr25 rfl sz25 rfl rfl (by exact .inr ⟨_, rfl⟩) rfl rfl ?_
        refine aops_q rfl (q_assign (x := .d (.sl _ _)) rfl) ?_
        refine aops_q rfl (q_assign (x := .d (.v _)) rfl) ?_
        refine aops_q rfl (q_assign (x := .d (.v _)) rfl) ?_
        refine aops_nil ?_
        change Awp _ _ _ _ _
        refine awp_seq ?_
        refine awp_region 28 mixed (by kernel_rfl) ?_
        refine rg_q (q_move (x := .d (.v _)) rfl) ?_
        refine rg_q (q_neq rfl rfl) ?_
        refine rg_q (q_move (x := .d (.v _)) rfl) ?_
        refine rg_g rfl rfl (fun hG => (q_move (x := .d (.v _)) rfl)) ?_
        refine rg_g rfl rfl (fun hG => (q_loadA (ds := [_, _, _, _, _]) sz25 rfl rfl rfl)) ?_
        refine rg_g rfl rfl (fun hG => (q_move (x := .d (.sl _ _)) rfl)) ?_
        refine rg_g rfl rfl (fun hG => (q_call en10 (.cons rfl (.cons rfl .nil)) rfl ((by have q := rprintPowers_p g l hfk; rw [← hpp] at q; exact q)))) ?_
        refine rg_g rfl rfl (fun hG => (q_neqs rfl rfl)) ?_
        refine rg_pick rfl rfl rfl rfl rfl rfl ?_
        refine rg_q (q_move (x := .d (.v _)) rfl) ?_
        refine rg_g rfl rfl (fun hG => (q_move (x := .d (.v _)) rfl)) ?_
        refine rg_g rfl rfl (fun hG => (q_neq rfl rfl)) ?_
        refine rg_pick rfl rfl rfl rfl rfl rfl ?_
        refine rg_q (q_move (x := .d (.v _)) rfl) ?_
        refine rg_g rfl rfl (fun hG => (q_move (x := .d (.v _)) rfl)) ?_
        refine rg_g rfl rfl (fun hG => (q_neq rfl rfl)) ?_
        refine rg_pick rfl rfl rfl rfl rfl rfl ?_
        refine rg_q (q_move (x := .d (.v _)) rfl) ?_
        refine rg_g rfl rfl (fun hG => (q_loadA (ds := [_, _, _, _, _]) sz25 rfl rfl rfl)) ?_
        refine rg_g rfl rfl (fun hG => (q_loadA (ds := [_, _, _, _, _]) sz25 rfl rfl rfl)) ?_
        refine rg_g rfl rfl (fun hG => (q_neqI (xs := [_, _, _, _, _]) (ys := [_, _, _, _, _]) eqi25 rfl rfl rfl rfl)) ?_
        refine rg_pick rfl rfl rfl rfl rfl rfl ?_
        refine rg_q (q_move (x := .d (.v _)) rfl) ?_
        refine rg_g rfl rfl (fun hG => (q_move (x := .d (.sl _ _)) rfl)) ?_
        refine rg_g rfl rfl (fun hG => (q_move (x := .d (.sl _ _)) rfl)) ?_
        refine rg_g rfl rfl (fun hG => (q_call en11 (.cons rfl (.cons rfl .nil)) rfl (ints5_p l l))) ?_
        refine rg_g rfl rfl (fun hG => (q_not rfl)) ?_
        refine rg_pick rfl rfl rfl rfl rfl rfl ?_
        refine rg_nil ?_
        refine aops_nil ?_
        change Awp _ _ _ _ _
        refine awp_cond rfl (fun hc11 => ?_) (fun hc11 => ?_)
        ·
          simp [h0] at hc11
        ·
          (try simp only [nb, ne_eq] at hc11)
          refine awp_skip ?_
          change Awp _ _ _ _ _
          refine awp_seq ?_
          refine awp_region 7 mixed (by kernel_rfl) ?_
          refine rg_q (q_move (x := .d (.v _)) rfl) ?_
          refine rg_q (q_callG en9 (.cons rfl .nil) rfl hG (parsePowers_p s (by omega))) ?_
          refine rg_q (q_move (x := .d (.tup _)) rfl) ?_
          refine rg_q (q_extract rfl rfl) ?_
          refine rg_q (q_extract rfl rfl) ?_
          refine rg_q (q_extract rfl rfl) ?_
          refine rg_q (q_extract rfl rfl) ?_
          refine rg_nil ?_
          refine aops_allocD zr25 rfl sz25 rfl rfl (by exact .inr ⟨_, rfl⟩) rfl rfl ?_
          refine aops_q rfl (q_assign (x := .d (.sl _ _)) rfl) ?_
          refine aops_q rfl (q_assign (x := .d (.v _)) rfl) ?_
          refine aops_q rfl (q_assign (x := .d (.v _)) rfl) ?_
          refine aops_nil ?_
          change Awp _ _ _ _ _
          refine awp_seq ?_
          refine awp_region 7 mixed (by kernel_rfl) ?_
          refine rg_q (q_move (x := .d (.v _)) rfl) ?_
          refine rg_q (q_call en12 (.cons rfl .nil) rfl (rparsePowers_p s (by omega))) ?_
          refine rg_q (q_move (x := .d (.tup _)) rfl) ?_
          refine rg_q (q_extract rfl rfl) ?_
          refine rg_q (q_extract rfl rfl) ?_
          refine rg_q (q_extract rfl rfl) ?_
          refine rg_q (q_extract rfl rfl) ?_
          refine rg_nil ?_
          refine aops_allocD zr25 rfl sz25 rfl rfl (by exact .inr ⟨_, rfl⟩) rfl rfl ?_
          refine aops_q rfl (q_assign (x := .d (.sl _ _)) rfl) ?_
          refine aops_q rfl (q_assign (x := .d (.v _)) rfl) ?_
          refine aops_q rfl (q_assign (x := .d (.v _)) rfl) ?_
          refine aops_nil ?_
          change Awp _ _ _ _ _
          refine awp_seq ?_
          refine awp_region 19 mixed (by kernel_rfl) ?_
          refine rg_q (q_move (x := .d (.v _)) rfl) ?_
          refine rg_q (q_move (x := .d (.v _)) rfl) ?_
          refine rg_q (q_eql rfl rfl) ?_
          refine rg_q (q_move (x := .d (.v _)) rfl) ?_
          refine rg_g rfl rfl (fun hG => (q_move (x := .d (.v _)) rfl)) ?_
          refine rg_g rfl rfl (fun hG => (q_move (x := .d (.v _)) rfl)) ?_
          refine rg_g rfl rfl (fun hG => (q_eql rfl rfl)) ?_
          refine rg_pick rfl rfl rfl rfl rfl rfl ?_
          refine rg_q (q_move (x := .d (.v _)) rfl) ?_
          refine rg_g rfl rfl (fun hG => (q_loadA (ds := [_, _, _, _, _]) sz25 rfl rfl rfl)) ?_
          refine rg_g rfl rfl (fun hG => (q_loadA (ds := [_, _, _, _, _]) sz25 rfl rfl rfl)) ?_
          refine rg_g rfl rfl (fun hG => (q_eqlI (xs := [_, _, _, _, _]) (ys := [_, _, _, _, _]) eqi25 rfl rfl rfl rfl)) ?_
          refine rg_pick rfl rfl rfl rfl rfl rfl ?_
          refine rg_q (q_move (x := .d (.v _)) rfl) ?_
          refine rg_g rfl rfl (fun hG => (q_move (x := .d (.sl _ _)) rfl)) ?_
          refine rg_g rfl rfl (fun hG => (q_move (x := .d (.sl _ _)) rfl)) ?_
          refine rg_g rfl rfl (fun hG => (q_call en11 (.cons rfl (.cons rfl .nil)) rfl (ints5_p (psR s).pw (psR s).pw))) ?_
          refine rg_pick rfl rfl rfl rfl rfl rfl ?_
          refine rg_q (q_assign (x := .d (.v _)) rfl) ?_
          refine rg_nil ?_
          refine aops_nil ?_
          change Awp _ _ _ _ _
          refine awp_ret ?_
          refine ⟨_, (.cons (.tmp (by exact .d _)) .nil), ?_⟩
          simp [retD]
end Go.Proofs.YtcdccdcbfbakfaaGreatDoor.Am.M
