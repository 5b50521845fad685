/- Contracts over the abstract machine: echoes add up; BenchAdds. Conditions: none. -/
import Derived.Test.YtblbnagdhcpnoaaK29
import Derived.Test.YtblbnagdhcpnoaaY3
set_option linter.unusedVariables false
set_option linter.unusedSimpArgs false
-- mini
namespace Go.Proofs.Ytblbnagdhcpnoaa.Am.M
open Go

theorem inR_add {l h a : Int} : inR l a h = true ↔ l ≤ a ∧ a ≤ h := by unfold inR; simp
theorem inR_neg {a : Int} : inR (-1000) (-a) 1000 = inR (-1000) a 1000 := by
  rw [Bool.eq_iff_iff, inR_add, inR_add]; omega
/-- A flaw with the opposite amplitudes. -/
def ngF (x : Flw) : Flw := ⟨x.kd, x.at_, x.to_, x.pc, -x.am, -x.tp⟩
theorem ng_flwE (x : Flw) : flwE (ngF x) = flwE x := by
  have e0 : flwE0 (ngF x) = flwE0 x := by
    unfold flwE0
    rw [show (ngF x).am = -x.am from rfl, inR_neg]; rfl
  have e1 : poreE (ngF x) = poreE x := by
    unfold poreE
    rw [show (ngF x).tp = -x.tp from rfl, show decide (-x.tp ≠ 0) = decide (x.tp ≠ 0) from decide_eq_decide.2 (by omega)]; rfl
  have e2 : planeE (ngF x) = planeE x := by
    unfold planeE
    rw [show (ngF x).tp = -x.tp from rfl, inR_neg]; rfl
  unfold flwE
  rw [e0, e1, e2]; rfl
theorem ng_flE (t : Int) (x : Flw) : flE t (ngF x) = flE t x := by
  unfold flE
  rw [ng_flwE]; rfl
theorem flw_tp {x : Flw} (h : flwE x = 0) : -1000 ≤ x.tp ∧ x.tp ≤ 1000 := by
  have hok := flw_ok h
  by_cases hk : x.kd = 0
  · unfold flwE at h
    by_cases h1 : ¬ (0 ≤ x.kd ∧ x.kd ≤ 1)
    · rw [if_pos h1] at h; cases h
    rw [if_neg h1] at h
    by_cases h2 : flwE0 x ≠ 0
    · rw [if_pos h2] at h; exact absurd h h2
    rw [if_neg h2, if_pos hk] at h
    unfold poreE at h
    have := (when_zero (show (3 : Int) ≠ 0 by decide)).1 h
    simp at this
    omega
  · exact (hok.pl hk).2.2.2
theorem ckFls_zero {t : Int} : ∀ {l : List Flw} {i : Nat}, (∀ x ∈ l, flE t x = 0) → (ckFls t i l).2 = 0
  | [], _, _ => rfl
  | x :: xs, i, h => by
    unfold ckFls
    rw [if_neg (fun q => q (h x (by simp)))]
    exact ckFls_zero fun y hy => h y (by simp [hy])
theorem ckFls_flE {t : Int} : ∀ {l : List Flw} {i : Nat}, (ckFls t i l).2 = 0 → ∀ x ∈ l, flE t x = 0
  | [], _, _, x, hx => by cases hx
  | y :: ys, i, h, x, hx => by
    unfold ckFls at h
    by_cases h1 : flE t y ≠ 0
    · rw [if_pos h1] at h; exact absurd h h1
    · rw [if_neg h1] at h
      rcases List.mem_cons.1 hx with rfl | hx
      · exact Decidable.not_not.1 h1
      · exact ckFls_flE h x hx
/-- A right specimen with other right flaws. -/
theorem spc_with {s : Spc} (h : (ckSpc s).2 = 0) (l : List Flw) (hl : l.length ≤ 10) (hf : ∀ x ∈ l, flE s.ar.ou.t x = 0) : (ckSpc ⟨s.ar, s.pl, l⟩).2 = 0 := by
  have hp := spc_pulse h
  unfold ckSpc at h ⊢
  by_cases h1 : (ckArr s.ar).2 ≠ 0
  · rw [if_pos h1] at h; exact absurd h h1
  rw [if_neg h1] at h ⊢
  have h2 : spcE0 ⟨s.ar, s.pl, l⟩ = 0 := by
    unfold spcE0
    rw [first_zero]
    simp only [List.mem_cons, List.not_mem_nil, or_false, forall_eq_or_imp, forall_eq]
    exact ⟨hp, (when_zero (show (8 : Int) ≠ 0 by decide)).2 (decide_eq_false (by omega))⟩
  rw [if_neg (fun q => q h2)]
  exact ckFls_zero hf
theorem spc_flE {s : Spc} (h : (ckSpc s).2 = 0) : ∀ x ∈ s.fl, flE s.ar.ou.t x = 0 := by
  unfold ckSpc at h
  by_cases h1 : (ckArr s.ar).2 ≠ 0
  · rw [if_pos h1] at h; exact absurd h h1
  rw [if_neg h1] at h
  by_cases h2 : spcE0 s ≠ 0
  · rw [if_pos h2] at h; exact absurd h h2
  rw [if_neg h2] at h
  exact ckFls_flE h
/-- What one point adds to a sample. -/
def ctr (a : Arr) (pl : List Int) (pr : Int × Int) (q : (Int × Int) × Int) (i : Nat) : Int :=
  if smpI a q.1 pr ≤ (i : Int) ∧ (i : Int) < smpI a q.1 pr + (pl.length : Int) then q.2 * pl.getD ((i : Int) - smpI a q.1 pr).toNat 0 else 0
def sumC (a : Arr) (pl : List Int) (pr : Int × Int) : List ((Int × Int) × Int) → Nat → Int
  | [], _ => 0
  | q :: P, i => ctr a pl pr q i + sumC a pl pr P i
theorem sumC_app {a : Arr} {pl : List Int} {pr : Int × Int} {i : Nat} : ∀ P Q : List ((Int × Int) × Int), sumC a pl pr (P ++ Q) i = sumC a pl pr P i + sumC a pl pr Q i
  | [], Q => by show sumC a pl pr Q i = 0 + sumC a pl pr Q i; omega
  | q :: P, Q => by
    show ctr a pl pr q i + sumC a pl pr (P ++ Q) i = ctr a pl pr q i + sumC a pl pr P i + sumC a pl pr Q i
    rw [sumC_app P Q]; omega
theorem smT_at {a : Arr} {pl : List Int} {pr : Int × Int} {P : List ((Int × Int) × Int)} {i : Nat} (hi : i < 64) : ∀ k : Nat, k ≤ P.length → (smT a pl pr P k).getD i 0 = sumC a pl pr (P.take k) i
  | 0, _ => by
    show zI.getD i 0 = 0
    rw [List.getD_eq_getElem?_getD, List.getElem?_eq_getElem (show i < zI.length from hi)]
    exact List.eq_of_mem_replicate (List.getElem_mem _)
  | k + 1, hk => by
    have ih := smT_at (a := a) (pl := pl) (pr := pr) (P := P) hi k (by omega)
    have hP : ptA P k = P[k] := by unfold ptA; rw [List.getD_eq_getElem?_getD, List.getElem?_eq_getElem (by omega)]; rfl
    show (adT (smT a pl pr P k) pl (ptA P k).2 (smpI a (ptA P k).1 pr) pl.length).getD i 0 = _
    rw [adT_at pl.length i (by rw [smT_len]; exact hi) (smT_len k), ih, List.take_succ_eq_append_getElem (by omega), sumC_app, hP]
    show _ = sumC a pl pr (P.take k) i + (ctr a pl pr P[k] i + 0)
    unfold ctr
    omega
/-- The samples of a specimen. -/
def smA (s : Spc) (pr : Int × Int) : List Int := smT s.ar s.pl pr (ptsS s) (ptsS s).length
theorem smA_len (s : Spc) (pr : Int × Int) : (smA s pr).length = 64 := smT_len _
theorem smA_at {s : Spc} {pr : Int × Int} {i : Nat} (hi : i < 64) : (smA s pr).getD i 0 = sumC s.ar s.pl pr (ptsS s) i := by
  unfold smA
  rw [smT_at hi _ (Nat.le_refl _), List.take_length]
theorem sumC_wo {s : Spc} {pr : Int × Int} {i k : Nat} {x : Flw} (hx : s.fl[k]? = some x) : sumC s.ar s.pl pr (ptsS s) i = sumC s.ar s.pl pr (ptsS (woS s k)) i + sumC s.ar s.pl pr (ptsS ⟨s.ar, s.pl, [x]⟩) i := by
  obtain ⟨hk, he⟩ := List.getElem?_eq_some_iff.1 hx
  have e1 : s.fl = s.fl.take k ++ (x :: s.fl.drop (k + 1)) := by rw [← he, ← List.drop_eq_getElem_cons hk, List.take_append_drop]
  have e2 : (woS s k).fl = s.fl.take k ++ s.fl.drop (k + 1) := List.eraseIdx_eq_take_drop_succ _ _
  show sumC _ _ _ (s.fl.flatMap ptsL) i = sumC _ _ _ ((woS s k).fl.flatMap ptsL) i + sumC _ _ _ ([x].flatMap ptsL) i
  rw [e2]
  conv => lhs; rw [e1]
  rw [List.flatMap_append, List.flatMap_append, List.flatMap_cons, List.flatMap_cons, List.flatMap_nil, List.append_nil, sumC_app, sumC_app, sumC_app]
  omega
theorem smA_add {s : Spc} {pr : Int × Int} {i k : Nat} {x : Flw} (hx : s.fl[k]? = some x) (hi : i < 64) : (smA s pr).getD i 0 = (smA (woS s k) pr).getD i 0 + (smA ⟨s.ar, s.pl, [x]⟩ pr).getD i 0 := by
  rw [smA_at hi, smA_at hi, smA_at hi]
  exact sumC_wo hx
def ngP (q : (Int × Int) × Int) : (Int × Int) × Int := (q.1, -q.2)
theorem ptsL_ng (x : Flw) : ptsL (ngF x) = (ptsL x).map ngP := by
  unfold ptsL
  rw [show (ngF x).kd = x.kd from rfl]
  by_cases h : x.kd = 0
  · rw [if_pos h, if_pos h]; rfl
  · rw [if_neg h, if_neg h]
    unfold ptsTo
    rw [List.map_map]
    refine List.map_congr_left fun i _ => ?_
    show ptK (ngF x) i = ngP (ptK x i)
    unfold ptK ngP ngF
    simp only
    by_cases hi : (i : Int) = 0 ∨ (i : Int) = x.pc
    · rw [if_pos hi, if_pos hi]
    · rw [if_neg hi, if_neg hi]
theorem sumC_ng {a : Arr} {pl : List Int} {pr : Int × Int} {i : Nat} : ∀ P : List ((Int × Int) × Int), sumC a pl pr (P.map ngP) i = -sumC a pl pr P i
  | [] => rfl
  | q :: P => by
    have e : ctr a pl pr (ngP q) i = -ctr a pl pr q i := by
      unfold ctr
      rw [show (ngP q).1 = q.1 from rfl, show (ngP q).2 = -q.2 from rfl]
      split
      · rw [Int.neg_mul]
      · rfl
    show ctr a pl pr (ngP q) i + sumC a pl pr (P.map ngP) i = -(ctr a pl pr q i + sumC a pl pr P i)
    rw [e, sumC_ng P]; omega
def ngS (s : Spc) : Spc := ⟨s.ar, s.pl, s.fl.map ngF⟩
theorem ptsS_ng (s : Spc) : ptsS (ngS s) = (ptsS s).map ngP := by
  show (s.fl.map ngF).flatMap ptsL = (s.fl.flatMap ptsL).map ngP
  induction s.fl with
  | nil => rfl
  | cons x l ih => rw [List.map_cons, List.flatMap_cons, List.flatMap_cons, List.map_append, ih, ptsL_ng]
theorem smA_ng {s : Spc} {pr : Int × Int} : smA (ngS s) pr = (smA s pr).map (-·) := by
  refine List.ext_getElem (by rw [List.length_map, smA_len, smA_len]) fun i h1 h2 => ?_
  have hi : i < 64 := by rw [smA_len] at h1; exact h1
  have g1 := smA_at (s := ngS s) (pr := pr) hi
  have g2 := smA_at (s := s) (pr := pr) hi
  rw [ptsS_ng] at g1
  rw [show (ngS s).ar = s.ar from rfl, show (ngS s).pl = s.pl from rfl, sumC_ng, ← g2] at g1
  rw [List.getElem_map]
  rw [List.getD_eq_getElem?_getD, List.getD_eq_getElem?_getD, List.getElem?_eq_getElem h1, List.getElem?_eq_getElem (by rw [smA_len]; exact hi)] at g1
  exact g1
theorem big_neg (n : Int) : bigB (-n) = bigB n := by
  unfold bigB
  rw [show inR (-2047) (-n) 2047 = inR (-2047) n 2047 by rw [Bool.eq_iff_iff, inR_add, inR_add]; omega]
theorem big_ng {s : Spc} {pr : Int × Int} : (smA (ngS s) pr).any bigB = (smA s pr).any bigB := by
  rw [smA_ng, List.any_map]
  congr 1
  funext n
  exact big_neg n
theorem tc_is {s : Spc} {pr : Int × Int} (h1 : (ckSpc s).2 = 0) (h2 : pairE s.ar.el.length pr = 0) : tcR s pr = if (smA s pr).any bigB = true then (z64, 8) else ((smA s pr).map fv, 0) := by
  unfold tcR
  rw [if_neg (fun q => q h1), if_neg (fun q => q h2)]; rfl
theorem big_in {S : List Int} (h : S.any bigB = false) (i : Nat) : -2047 ≤ S.getD i 0 ∧ S.getD i 0 ≤ 2047 := by
  rw [List.getD_eq_getElem?_getD]
  cases hx : S[i]? with
  | none => exact ⟨by decide, by decide⟩
  | some v =>
    have := List.any_eq_false.1 h v (List.mem_of_getElem? hx)
    unfold bigB at this
    simp [inR] at this
    exact ⟨this.1, this.2⟩
theorem xor_top {r : Nat} (h : r < 2 ^ 31) : r ^^^ 2 ^ 31 = 2 ^ 31 + r := by
  refine Nat.eq_of_testBit_eq fun i => ?_
  rw [Nat.testBit_xor, Nat.testBit_two_pow]
  rcases Nat.lt_trichotomy i 31 with hi | hi | hi
  · rw [Nat.testBit_two_pow_add_gt hi, decide_eq_false (by omega)]; simp
  · subst hi
    rw [Nat.testBit_two_pow_add_eq, Nat.testBit_lt_two_pow h]; rfl
  · rw [decide_eq_false (by omega), Nat.testBit_lt_two_pow (Nat.lt_trans h (Nat.pow_lt_pow_right (by omega) hi)), Nat.testBit_lt_two_pow (show 2 ^ 31 + r < 2 ^ i from Nat.lt_of_lt_of_le (show 2 ^ 31 + r < 2 ^ 32 by omega) (Nat.pow_le_pow_right (by omega) (by omega)))]; rfl
theorem neg_word {neg : Bool} {r : Nat} (h : r < 2 ^ 31) : Op.negFloat .f32 (Ieee.single.word neg r) = Ieee.single.word (!neg) r := by
  have hs : Ieee.single.signWeight = 2 ^ 31 := by decide +kernel
  have he : (2 : Nat) ^ (FloatKind.f32.format.exponentBits + FloatKind.f32.format.fractionBits) = 2 ^ 31 := by decide +kernel
  unfold Op.negFloat Ieee.Format.word
  rw [he, hs]
  cases neg
  · simp only [Bool.false_eq_true, if_false, Bool.not_false, if_true]; exact xor_top h
  · simp only [if_true, Bool.not_true, Bool.false_eq_true, if_false]
    rw [← xor_top h, Nat.xor_assoc, Nat.xor_self, Nat.xor_zero]
theorem neg_nearest {neg : Bool} {n : Nat} (hn : n < 2 ^ 24) : Op.negFloat .f32 (Ieee.single.nearest neg n 0) = Ieee.single.nearest (!neg) n 0 := by
  by_cases h0 : n = 0
  · subst h0
    rw [nearest_zero, nearest_zero]
    exact neg_word (by decide)
  · have h1 := fun b => nearest_at fmS b 0 (n := n) (by omega) hn
    simp only [Nat.pow_zero, Nat.mul_one] at h1
    have e : (-((0 : Nat) : Int)) = 0 := rfl
    rw [e] at h1
    rw [h1 neg, h1 (!neg)]
    refine neg_word (Nat.lt_of_le_of_lt (Nat.min_le_right _ _) (by decide))
/-- The opposite of a whole number. -/
theorem f32_neg {n : Int} (h : f32I n) : FloatKind.f32.format.order (FloatKind.f32.nearest (-n)) (Op.negFloat .f32 (FloatKind.f32.nearest n)) = some .eq := by
  show Ieee.single.order (wd Ieee.single (-n)) (Op.negFloat .f32 (wd Ieee.single n)) = _
  have e : Op.negFloat .f32 (wd Ieee.single n) = Ieee.single.nearest (!decide (n < 0)) n.natAbs 0 := neg_nearest h
  rw [e]
  by_cases h0 : n = 0
  · subst h0; decide +kernel
  · have e2 : Ieee.single.nearest (!decide (n < 0)) n.natAbs 0 = wd Ieee.single (-n) := by
      unfold wd
      rw [Int.natAbs_neg]
      congr 1
      by_cases hn : n < 0
      · rw [decide_eq_true hn, decide_eq_false (by omega)]; rfl
      · rw [decide_eq_false hn, decide_eq_true (by omega)]; rfl
    have h1 : f32I (-n) := by unfold f32I at *; omega
    rw [e2, order_wd fmS h1 h1]; simp
theorem f32_add {a b : Int} (ha : f32I a) (hb : f32I b) (hc : f32I (a + b)) : floatBits .add .f32 (FloatKind.f32.nearest a) (FloatKind.f32.nearest b) = some (FloatKind.f32.nearest (a + b)) := add_wd fmS ha hb hc
/-- The samples that TraceOf returns. -/
def smZ (s : Spc) (pr : Int × Int) : List Int := if (smA s pr).any bigB = true then List.replicate 64 0 else smA s pr
def smE (s : Spc) (pr : Int × Int) : Int := if (smA s pr).any bigB = true then 8 else 0
theorem tc_eq {s : Spc} {pr : Int × Int} (h1 : (ckSpc s).2 = 0) (h2 : pairE s.ar.el.length pr = 0) : tcR s pr = ((smZ s pr).map fv, smE s pr) := by
  rw [tc_is h1 h2]
  unfold smZ smE
  by_cases h : (smA s pr).any bigB = true
  · rw [if_pos h, if_pos h, if_pos h, List.map_replicate]; rfl
  · rw [if_neg h, if_neg h, if_neg h]
theorem smZ_len (s : Spc) (pr : Int × Int) : (smZ s pr).length = 64 := by
  unfold smZ
  split
  · exact List.length_replicate
  · exact smA_len _ _
theorem smZ_in (s : Spc) (pr : Int × Int) (i : Nat) : -2047 ≤ (smZ s pr).getD i 0 ∧ (smZ s pr).getD i 0 ≤ 2047 := by
  unfold smZ
  split
  · rw [List.getD_eq_getElem?_getD, List.getElem?_replicate]
    split
    · exact ⟨by decide, by decide⟩
    · exact ⟨by decide, by decide⟩
  · rename_i h
    exact big_in (by cases q : (smA s pr).any bigB with | false => rfl | true => exact absurd q h) i
theorem smE_01 (s : Spc) (pr : Int × Int) : smE s pr = 0 ∨ smE s pr = 8 := by
  unfold smE
  split
  · exact .inr rfl
  · exact .inl rfl
theorem smZ_ok {s : Spc} {pr : Int × Int} (h : smE s pr = 0) : smZ s pr = smA s pr := by
  unfold smE at h
  unfold smZ
  by_cases q : (smA s pr).any bigB = true
  · rw [if_pos q] at h; cases h
  · rw [if_neg q]
theorem smE_ng (s : Spc) (pr : Int × Int) : smE (ngS s) pr = smE s pr := by unfold smE; rw [big_ng]
theorem fv_at {S : List Int} (hS : S.length = 64) {k : Nat} (hk : k < 64) : (S.map fv)[0 + (k : Int).toNat * 1]? = some (fv (S.getD k 0)) := by
  rw [Int.toNat_natCast, Nat.zero_add, Nat.mul_one, List.getElem?_map, List.getElem?_eq_getElem (by omega), List.getD_eq_getElem?_getD, List.getElem?_eq_getElem (by omega)]; rfl
theorem ngF_row {l : List Flw} {k : Nat} {x : Flw} (hx : l[k]? = some x) : ((l.take k).map ngF ++ l.drop k)[k]? = some x := by
  have hk := (List.getElem?_eq_some_iff.1 hx).1
  rw [List.getElem?_append_right (by simp; omega), List.length_map, List.length_take, Nat.min_eq_left (by omega), Nat.sub_self, List.getElem?_drop, Nat.add_zero, hx]
theorem ngF_set {l : List Flw} {k : Nat} {x : Flw} (hx : l[k]? = some x) : ((l.take k).map ngF ++ l.drop k).set k (ngF x) = (l.take (k + 1)).map ngF ++ l.drop (k + 1) := by
  have hk := (List.getElem?_eq_some_iff.1 hx).1
  have hl : ((l.take k).map ngF).length = k := by simp; omega
  rw [List.set_append_right _ _ (by omega), hl, Nat.sub_self, List.drop_eq_getElem_cons hk, List.set_cons_zero, List.take_succ_eq_append_getElem hk, List.map_append, (List.getElem?_eq_some_iff.1 hx).2]
  simp
def ngL (l : List Flw) (k : Nat) : List Flw := (l.take k).map ngF ++ l.drop k
theorem ngL_len (l : List Flw) (k : Nat) : (ngL l k).length = l.length := by unfold ngL; simp; omega
def ngA (x : Flw) : Flw := ⟨x.kd, x.at_, x.to_, x.pc, -x.am, x.tp⟩
set_option maxHeartbeats 2000000 in
theorem benchAdds_p (s : Spc) (f : Int) (pr : Int × Int) : PC Try.prog 8 [.agg (spcC s), .v (.int .i64 (f)), .agg (shC pr)] (.v (.bool (true))) := by
  refine pc_of_awpN Try.func8 rfl Try.ntmps8 (rs := [.tmp 6]) Try.results8 (by simp) fun w0 hmine hrnd hpn => ?_
  refine awp_seq ?_
  refine awp_region 3 mixed (by kernel_rfl) ?_
  refine rg_q (q_box rfl (by exact .inr ⟨_, rfl⟩)) ?_
  refine rg_q (q_box rfl (by exact .inr ⟨_, rfl⟩)) ?_
  refine rg_q (q_assign (x := .d (.v _)) rfl) ?_
  refine rg_nil ?_
  refine aops_nil ?_
  change Awp _ _ _ _ _
  refine awp_seq ?_
  refine awp_seq ?_
  refine awp_region 2 mixed (by kernel_rfl) ?_
  refine rg_q (q_call en12 .nil rfl (awake_p)) ?_
  refine rg_q (q_not rfl) ?_
  refine rg_nil ?_
  refine aops_nil ?_
  change Awp _ _ _ _ _
  refine awp_cond rfl (fun hc1 => ?_) (fun hc1 => ?_)
  ·
    simp at hc1
  ·
    (try simp only [decide_eq_true_eq, decide_eq_false_iff_not, Bool.and_eq_true, Bool.or_eq_true, Bool.and_eq_false_iff, Bool.or_eq_false_iff, Bool.not_eq_true', Bool.not_eq_false', Bool.not_true, Bool.not_false, bif_and, bif_or, Bool.not_not, ne_eq, Decidable.not_not, not_true_eq_false, not_false_eq_true, Int.not_le, Int.not_lt] at hc1)
    refine awp_skip ?_
    change Awp _ _ _ _ _
    refine awp_seq ?_
    refine awp_seq ?_
    refine awp_region 24 mixed (by kernel_rfl) ?_
    refine rg_q (q_loadA sz54 rfl rfl rfl) ?_
    refine rg_q (q_call en22 (.cons rfl .nil) rfl (slight_p s)) ?_
    refine rg_q (q_not rfl) ?_
    refine rg_q (q_move (x := .d (.v _)) rfl) ?_
    refine rg_g rfl rfl (fun hG => (q_loadA sz54 rfl rfl rfl)) ?_
    refine rg_g rfl rfl (fun hG => (q_call en34 (.cons rfl .nil) rfl (specimenErr_p s))) ?_
    refine rg_g rfl rfl (fun hG => (q_neq rfl rfl)) ?_
    refine rg_pick rfl rfl rfl rfl rfl rfl ?_
    refine rg_q (q_move (x := .d (.v _)) rfl) ?_
    refine rg_g rfl rfl (fun hG => (q_fieldAddr fld54_0 rfl)) ?_
    refine rg_g rfl rfl (fun hG => (q_loadA (ds := [_, _, _, _, _, _, _, _, _, _, _]) sz28 rfl rfl rfl)) ?_
    refine rg_g rfl rfl (fun hG => (q_loadA (ds := [_, _]) sz75 rfl rfl rfl)) ?_
    refine rg_g rfl rfl (fun hG => (q_call en35 (.cons rfl (.cons rfl .nil)) rfl (rpairErr_p s.ar pr (by have hg0 := T.bool_inj (a := _) hG.1; (try simp only [decide_eq_true_eq, decide_eq_false_iff_not, Bool.and_eq_true, Bool.or_eq_true, Bool.and_eq_false_iff, Bool.or_eq_false_iff, Bool.not_eq_true', Bool.not_eq_false', Bool.not_true, Bool.not_false, bif_and, bif_or, Bool.not_not, ne_eq, Decidable.not_not, not_true_eq_false, not_false_eq_true, Int.not_le, Int.not_lt] at hg0); have := (sli_le hg0.1).1; omega)))) ?_
    refine rg_g rfl rfl (fun hG => (q_neq rfl rfl)) ?_
    refine rg_pick rfl rfl rfl rfl rfl rfl ?_
    refine rg_q (q_move (x := .d (.v _)) rfl) ?_
    refine rg_g rfl rfl (fun hG => (q_move (x := .d (.v _)) rfl)) ?_
    refine rg_g rfl rfl (fun hG => (q_fieldAddr fld54_2 rfl)) ?_
    refine rg_g rfl rfl (fun hG => (q_load sz52 rfl rfl)) ?_
    refine rg_g rfl rfl (fun hG => (q_len isl52 rfl (by exact len_map _ _))) ?_
    refine rg_g rfl rfl (fun hG => (q_sub rfl rfl (In64.mk (by have hg0 := T.bool_inj (a := _) hG.1; (try simp only [decide_eq_true_eq, decide_eq_false_iff_not, Bool.and_eq_true, Bool.or_eq_true, Bool.and_eq_false_iff, Bool.or_eq_false_iff, Bool.not_eq_true', Bool.not_eq_false', Bool.not_true, Bool.not_false, bif_and, bif_or, Bool.not_not, ne_eq, Decidable.not_not, not_true_eq_false, not_false_eq_true, Int.not_le, Int.not_lt] at hg0); have := (sli_le hg0.1.1).2.2; omega) (by have hg0 := T.bool_inj (a := _) hG.1; (try simp only [decide_eq_true_eq, decide_eq_false_iff_not, Bool.and_eq_true, Bool.or_eq_true, Bool.and_eq_false_iff, Bool.or_eq_false_iff, Bool.not_eq_true', Bool.not_eq_false', Bool.not_true, Bool.not_false, bif_and, bif_or, Bool.not_not, ne_eq, Decidable.not_not, not_true_eq_false, not_false_eq_true, Int.not_le, Int.not_lt] at hg0); have := (sli_le hg0.1.1).2.2; omega)))) ?_
    refine rg_g rfl rfl (fun hG => (q_call en33 (.cons rfl (.cons rfl (.cons rfl .nil))) rfl (within4_p _ _ _))) ?_
    refine rg_g rfl rfl (fun hG => (q_not rfl)) ?_
    refine rg_pick rfl rfl rfl rfl rfl rfl ?_
    refine rg_nil ?_
    refine aops_nil ?_
    change Awp _ _ _ _ _
    refine awp_cond rfl (fun hc3 => ?_) (fun hc3 => ?_)
    ·
      (try simp only [decide_eq_true_eq, decide_eq_false_iff_not, Bool.and_eq_true, Bool.or_eq_true, Bool.and_eq_false_iff, Bool.or_eq_false_iff, Bool.not_eq_true', Bool.not_eq_false', Bool.not_true, Bool.not_false, bif_and, bif_or, Bool.not_not, ne_eq, Decidable.not_not, not_true_eq_false, not_false_eq_true, Int.not_le, Int.not_lt] at hc3)
      refine awp_seq ?_
      refine awp_region 1 mixed (by kernel_rfl) ?_
      refine rg_q (q_assign (x := .d (.v _)) rfl) ?_
      refine rg_nil ?_
      refine aops_nil ?_
      change Awp _ _ _ _ _
      refine awp_ret ?_
      refine ⟨_, (.cons (.tmp (by exact .d _)) .nil), ?_⟩
      rfl
    ·
      (try simp only [decide_eq_true_eq, decide_eq_false_iff_not, Bool.and_eq_true, Bool.or_eq_true, Bool.and_eq_false_iff, Bool.or_eq_false_iff, Bool.not_eq_true', Bool.not_eq_false', Bool.not_true, Bool.not_false, bif_and, bif_or, Bool.not_not, ne_eq, Decidable.not_not, not_true_eq_false, not_false_eq_true, Int.not_le, Int.not_lt] at hc3)
      obtain ⟨⟨⟨hsl, h0⟩, hp0⟩, hfi⟩ := hc3
      have hb : 0 ≤ f ∧ f ≤ (s.fl.length : Int) - 1 := by simpa [inR] using hfi
      obtain ⟨i, rfl⟩ : ∃ i : Nat, f = (i : Int) := ⟨f.toNat, by omega⟩
      have hi : i < s.fl.length := by omega
      have hml : (s.fl.map flwC).length = s.fl.length := List.length_map _
      obtain ⟨y, hy⟩ : ∃ y, s.fl[i]? = some y := ⟨_, List.getElem?_eq_getElem hi⟩
      obtain ⟨l1, l2, l3⟩ := sli_le hsl
      have hwo : woR s (i : Int) = (woS s i, 0) := by
        unfold woR woR0
        rw [if_neg (fun q => q h0), if_pos hfi]; rfl
      have hfE := spc_flE h0
      have hf1 := (spc_ok h0).f1
      have okW : (ckSpc (woS s i)).2 = 0 := spc_with h0 _ (Nat.le_trans (List.length_eraseIdx_le _ _) hf1) fun x hx => hfE x (List.mem_of_mem_eraseIdx hx)
      have okA : (ckSpc ⟨s.ar, s.pl, [y]⟩).2 = 0 := spc_with h0 _ (by simp) fun x hx => by rw [List.mem_singleton.1 hx]; exact hfE y (List.mem_of_getElem? hy)
      have okT : (ckSpc (ngS s)).2 = 0 := spc_with h0 _ (by rw [List.length_map]; exact hf1) fun x hx => by obtain ⟨z, hz, rfl⟩ := List.mem_map.1 hx; rw [ng_flE]; exact hfE z hz
      have tS := tc_eq h0 hp0
      have tW := tc_eq (pr := pr) okW hp0
      have tA := tc_eq (pr := pr) okA hp0
      have tT := tc_eq (pr := pr) okT hp0
      have lS : ((smZ s pr).map fv).length = 64 := by rw [List.length_map, smZ_len]
      have lW : ((smZ (woS s i) pr).map fv).length = 64 := by rw [List.length_map, smZ_len]
      have lA : ((smZ ⟨s.ar, s.pl, [y]⟩ pr).map fv).length = 64 := by rw [List.length_map, smZ_len]
      have lT : ((smZ (ngS s) pr).map fv).length = 64 := by rw [List.length_map, smZ_len]
      have hok := spc_ok h0
      refine awp_skip ?_
      change Awp _ _ _ _ _
      refine awp_seq ?_
      refine awp_region 7 mixed (by kernel_rfl) ?_
      refine rg_q (q_loadA sz54 rfl rfl rfl) ?_
      refine rg_q (q_call en24 (.cons rfl .nil) rfl (copySpc_p s (by omega) (by omega) (by omega))) ?_
      refine rg_q (q_move (x := .d (.v _)) rfl) ?_
      refine rg_q (q_call en36 (.cons rfl (.cons rfl .nil)) rfl ((by have h := without_p s (i : Int); rw [hwo] at h; exact h))) ?_
      refine rg_q (q_move (x := .d (.tup _)) rfl) ?_
      refine rg_q (q_extract rfl rfl) ?_
      refine rg_q (q_extract rfl rfl) ?_
      refine rg_nil ?_
      refine aops_alloc zr54 rfl rfl rfl ?_
      refine aops_store sz54 rfl rfl (by exact .inr ⟨_, rfl⟩) rfl rfl (by decide) rfl ?_
      refine aops_q rfl (q_assign (x := .d (.v _)) rfl) ?_
      refine aops_nil ?_
      change Awp _ _ _ _ _
      refine awp_seq ?_
      refine awp_region 2 mixed (by kernel_rfl) ?_
      refine rg_q (q_loadA sz54 rfl rfl rfl) ?_
      refine rg_q (q_call en24 (.cons rfl .nil) rfl (copySpc_p s (by omega) (by omega) (by omega))) ?_
      refine rg_nil ?_
      refine aops_alloc zr54 rfl rfl rfl ?_
      refine aops_store sz54 rfl rfl (by exact .inr ⟨_, rfl⟩) rfl rfl (by decide) rfl ?_
      refine aops_nil ?_
      change Awp _ _ _ _ _
      refine awp_seq ?_
      refine awp_region 7 mixed (by kernel_rfl) ?_
      refine rg_q (q_fieldAddr fld54_2 rfl) ?_
      refine rg_q (q_load sz52 rfl rfl) ?_
      refine rg_q (q_move (x := .d (.v _)) rfl) ?_
      refine rg_q (q_indexAddr sl52 rfl rfl (by omega) (map_at (k := i) (by omega) hy)) ?_
      refine rg_q (q_loadA (ds := [_, _, _, _, _, _, _, _]) sz40 rfl rfl rfl) ?_
      refine rg_q (q_buildSlice sl52 zr40 rfl rfl (by decide) (.cons rfl (by exact .inr ⟨_, rfl⟩) .nil) ⟨rfl, rfl, trivial⟩ rfl (by decide) rfl) ?_
      refine rg_q (q_fieldAddr_ref fld54_2 rfl) ?_
      refine rg_nil ?_
      refine aops_store sz52 rfl rfl (by exact .inl rfl) rfl rfl (by exact Nat.le_of_ble_eq_true rfl) rfl ?_
      refine aops_nil ?_
      change Awp _ _ _ _ _
      refine awp_seq ?_
      refine awp_region 1 mixed (by kernel_rfl) ?_
      refine rg_q (q_loadA sz54 rfl rfl rfl) ?_
      refine rg_nil ?_
      refine aops_callL [64] [] en24 (copyO_p s (by omega) (by omega) (by omega) (by omega)) (.cons rfl .nil) rfl rfl rfl (by repeat (exact trivial)) (by repeat (first | exact trivial | refine ⟨rfl, ?_⟩)) rfl ?_
      refine aops_alloc zr54 rfl rfl rfl ?_
      refine aops_le (le_tbox (k := 10) (ts := [_, _, _, _, _, _, _, _, _, _, _, _, _]) rfl rfl) ?_
      refine aops_storeAg sz54 rfl rfl rfl rfl rfl rfl rfl ?_
      refine aops_nil ?_
      change Awp _ _ _ _ _
      refine awp_seq ?_
      refine awp_seq ?_
      refine awp_region 1 mixed (by kernel_rfl) ?_
      refine rg_q (q_assign (x := .d (.v _)) rfl) ?_
      refine rg_nil ?_
      refine aops_nil ?_
      change Awp _ _ _ _ _
      refine awp_block ?_
      refine awp_loopH [11, 65, 66, 67, 68, 69, 70, 71, 72, 73, 74, 75, 76, 77, 78, 79, 80, 81, 82, 83, 84, 85, 86, 87, 88, 89, 90, 91, 92, 93, 94, 95] [10, 64] (α := Nat) (fun k => [(11, T.i (k : Int))]) (fun k => [(10, .tbox ((arrC s.ar ++ [D.sl 1 (s.pl.map iC)]).map T.d ++ [.rs 64])), (64, .row 40 8 ((ngL s.fl k).map flwC))]) (fun k => k ≤ s.fl.length) (fun k => s.fl.length - k) 0 (Nat.zero_le _) ?_ ?_
      · exact le_head (ms := [10, 64]) (by repeat (exact Out.refl _)) ⟨(by rfl), trivial⟩ ⟨(by rfl), (by rfl), trivial⟩ rfl rfl rfl rfl
      ·
        intro k hk
        have hml2 : ((ngL s.fl k).map flwC).length = s.fl.length := by rw [List.length_map, ngL_len]
        refine awp_seq ?_
        refine awp_seq ?_
        refine awp_region 5 mixed (by kernel_rfl) ?_
        refine rg_q (q_move (x := .d (.v _)) rfl) ?_
        refine rg_q (q_fieldAddr_ref fld54_2 rfl) ?_
        refine rg_q (q_load_tb (x := .rs _) sz52 rfl rfl rfl) ?_
        refine rg_q (q_len_rs isl52 rfl rfl) ?_
        refine rg_q (q_lss rfl rfl) ?_
        refine rg_nil ?_
        refine aops_nil ?_
        change Awp _ _ _ _ _
        skip
        (try simp only [List.length_map] at hl67)
        refine awp_cond rfl (fun hc10 => ?_) (fun hc10 => ?_)
        ·
          (try simp only [decide_eq_true_eq, decide_eq_false_iff_not, Bool.and_eq_true, Bool.or_eq_true, Bool.and_eq_false_iff, Bool.or_eq_false_iff, Bool.not_eq_true', Bool.not_eq_false', Bool.not_true, Bool.not_false, bif_and, bif_or, Bool.not_not, ne_eq, Decidable.not_not, not_true_eq_false, not_false_eq_true, Int.not_le, Int.not_lt] at hc10)
          have hlt : k < s.fl.length := by omega
          obtain ⟨x, hx⟩ : ∃ x, s.fl[k]? = some x := ⟨_, List.getElem?_eq_getElem hlt⟩
          have hxo := (spc_ok h0).fl x (List.mem_of_getElem? hx)
          have htp := flw_tp (spc_fls h0 x (List.mem_of_getElem? hx))
          have ham := hxo.am
          have hml3 : (((ngL s.fl k).map flwC).set k (flwC (ngA x))).length = s.fl.length := by rw [List.length_set]; exact hml2
          have hrow : ((ngL s.fl k).map flwC)[k]? = some (flwC x) := by rw [List.getElem?_map]; unfold ngL; rw [ngF_row hx]; rfl
          have hset : ((ngL s.fl k).map flwC).set k (flwC (ngF x)) = (ngL s.fl (k + 1)).map flwC := by rw [← List.map_set]; unfold ngL; rw [ngF_set hx]
          refine awp_skip ?_
          change Awp _ _ _ _ _
          refine awp_seq ?_
          refine awp_block ?_
          refine awp_regionL 20 3 [3, 4, 5, 19] mixed (by kernel_rfl) ?_
          refine rg_q (q_fieldAddr_ref fld54_2 rfl) ?_
          refine rg_q (q_load_tb (x := .rs _) sz52 rfl rfl rfl) ?_
          refine rg_q (q_move (x := .d (.v _)) rfl) ?_
          refine rg_q (q_fieldAddr_ref fld54_2 rfl) ?_
          refine rg_q (q_load_tb (x := .rs _) sz52 rfl rfl rfl) ?_
          refine rg_q (q_move (x := .d (.v _)) rfl) ?_
          refine rg_q (q_fieldAddr_ref fld54_2 rfl) ?_
          refine rg_q (q_load_tb (x := .rs _) sz52 rfl rfl rfl) ?_
          refine rg_q (q_move (x := .d (.v _)) rfl) ?_
          refine rg_q (q_indexAddr_rs sl52 rfl rfl rfl (by omega) (by omega)) ?_
          refine rg_q (q_fieldAddr_ref fld40_4 rfl) ?_
          refine rg_q (q_load_row sz3 rfl rfl (i := k) (j := 6) (by rw [Int.toNat_natCast]) hrow rfl) ?_
          refine rg_q (q_neg rfl (In64.mk (by omega) (by omega))) ?_
          refine rg_q (q_fieldAddr_ref fld54_2 rfl) ?_
          refine rg_q (q_load_tb (x := .rs _) sz52 rfl rfl rfl) ?_
          refine rg_q (q_move (x := .d (.v _)) rfl) ?_
          refine rg_q (q_indexAddr_rs sl52 rfl rfl rfl (by omega) (by omega)) ?_
          refine rg_q (q_fieldAddr_ref fld40_5 rfl) ?_
          refine rg_q (q_load_row sz3 rfl rfl (i := k) (j := 7) (by rw [Int.toNat_natCast]) hrow rfl) ?_
          refine rg_q (q_neg rfl (In64.mk (by omega) (by omega))) ?_
          refine rg_nil ?_
          refine late_q (q_indexAddr_rs sl52 rfl rfl rfl (by omega) (by omega)) ?_ ?_
          · refine fl_cons rfl rfl rfl (c_q (q_fieldAddr_ref fld54_2 rfl)) ?_
            refine fl_cons rfl rfl rfl (c_q (q_load_tb (x := .rs _) sz52 rfl rfl rfl)) ?_
            first | refine fl_cons rfl rfl rfl (c_q (q_move (x := .d (.v _)) rfl)) ?_
            first | refine fl_cons rfl rfl rfl (c_q (q_neg rfl (In64.mk (by omega) (by omega)))) ?_
            exact fl_nil
          refine late_q (q_fieldAddr_ref fld40_4 rfl) ?_ ?_
          · refine fl_cons rfl rfl rfl (c_q (q_fieldAddr_ref fld54_2 rfl)) ?_
            refine fl_cons rfl rfl rfl (c_q (q_load_tb (x := .rs _) sz52 rfl rfl rfl)) ?_
            first | refine fl_cons rfl rfl rfl (c_q (q_move (x := .d (.v _)) rfl)) ?_
            first | refine fl_cons rfl rfl rfl (c_q (q_neg rfl (In64.mk (by omega) (by omega)))) ?_
            exact fl_nil
          refine late_set (c_storeRow sz3 rfl rfl (by exact .inl rfl) rfl rfl (i := k) (j := 6) (es' := (((ngL s.fl k).map flwC).set k (flwC (ngA x)))) (by rw [Int.toNat_natCast]) hrow (by decide) rfl) ?_ ?_
          · refine fl_cons rfl rfl rfl (c_q (q_fieldAddr_ref fld54_2 rfl)) ?_
            refine fl_cons rfl rfl rfl (c_q (q_load_tb (x := .rs _) sz52 rfl rfl rfl)) ?_
            first | refine fl_cons rfl rfl rfl (c_q (q_move (x := .d (.v _)) rfl)) ?_
            first | refine fl_cons rfl rfl rfl (c_q (q_neg rfl (In64.mk (by omega) (by omega)))) ?_
            exact fl_nil
          refine late_nil ?_
          refine aops_q rfl (q_indexAddr_rs sl52 rfl rfl rfl (by omega) (by omega)) ?_
          refine aops_q rfl (q_fieldAddr_ref fld40_5 rfl) ?_
          refine aops_store_row sz3 rfl rfl (by exact .inl rfl) rfl rfl (i := k) (j := 7) (es' := (ngL s.fl (k + 1)).map flwC) (by rw [Int.toNat_natCast]) (by rw [List.getElem?_set_self (by omega)]) (by decide) (by rw [List.set_set]; exact hset) ?_
          refine aops_nil ?_
          change Awp _ _ _ _ _
          refine awp_region 3 mixed (by kernel_rfl) ?_
          refine rg_q (q_move (x := .d (.v _)) rfl) ?_
          refine rg_q (q_add rfl rfl (In64.mk (by omega) (by omega))) ?_
          refine rg_q (q_assign (x := .d (.v _)) rfl) ?_
          refine rg_nil ?_
          refine aops_nil ?_
          refine ⟨k + 1, by omega, by omega, ?_⟩
          exact le_head (ms := [10, 64]) (by repeat (first | exact Out.head rfl rfl | (refine Out.put ?_ rfl) | (refine Out.site ?_ rfl))) ⟨(by rfl), trivial⟩ ⟨(by rfl), (by rfl), trivial⟩ rfl rfl rfl rfl
        ·
          (try simp only [decide_eq_true_eq, decide_eq_false_iff_not, Bool.and_eq_true, Bool.or_eq_true, Bool.and_eq_false_iff, Bool.or_eq_false_iff, Bool.not_eq_true', Bool.not_eq_false', Bool.not_true, Bool.not_false, bif_and, bif_or, Bool.not_not, ne_eq, Decidable.not_not, not_true_eq_false, not_false_eq_true, Int.not_le, Int.not_lt] at hc10)
          have hkn : k = s.fl.length := by omega
          subst hkn
          have hall : ngL s.fl s.fl.length = s.fl.map ngF := by unfold ngL; simp
          rw [hall]
          refine awp_exit ?_
          change Awp _ _ _ _ _
          refine awp_seq ?_
          refine awp_regionM 10 [none, none, none, none, none, none, none, some 12, some 12, none] mixed (by kernel_rfl) ?_
          refine rgm_q rfl (q_loadA sz54 rfl rfl rfl) ?_
          refine rgm_q rfl (q_call en24 (.cons rfl .nil) rfl (copySpc_p s (by omega) (by omega) (by omega))) ?_
          refine rgm_q rfl (q_loadA (ds := [_, _]) sz75 rfl rfl rfl) ?_
          refine rgm_q rfl (q_call en37 (.cons rfl (.cons rfl .nil)) rfl ((by have h := traceOfS_p s pr; rw [tS] at h; exact h))) ?_
          refine rgm_q rfl (q_move (x := .d (.tup _)) rfl) ?_
          refine rgm_q rfl (q_extract rfl rfl) ?_
          refine rgm_q rfl (q_extract rfl rfl) ?_
          refine rgm_m (k := 12) rfl rfl (by rfl) (m_alloc zr61 rfl rfl) ?_
          refine rgm_m (k := 12) rfl rfl (by rfl) (m_store (cs' := (smZ s pr).map fv) sz61 rfl rfl (by exact .inr ⟨_, rfl⟩) lS rfl (Nat.le_of_ble_eq_true rfl) (setCs_all lS)) ?_
          refine rgm_q rfl (q_assign (x := .d (.v _)) rfl) ?_
          refine rgm_nil ?_
          refine aops_nil ?_
          change Awp _ _ _ _ _
          refine awp_seq ?_
          refine awp_region 6 mixed (by kernel_rfl) ?_
          refine rg_q (q_load_refA sz54 rfl rfl rfl rfl) ?_
          refine rg_q (q_loadA (ds := [_, _]) sz75 rfl rfl rfl) ?_
          refine rg_q (q_call en37 (.cons rfl (.cons rfl .nil)) rfl ((by have h := traceOfS_p (woS s i) pr; rw [tW] at h; exact h))) ?_
          refine rg_q (q_move (x := .d (.tup _)) rfl) ?_
          refine rg_q (q_extract rfl rfl) ?_
          refine rg_q (q_extract rfl rfl) ?_
          refine rg_nil ?_
          refine aops_allocD zr61 rfl sz61 rfl rfl (by exact .inr ⟨_, rfl⟩) lW rfl ?_
          refine aops_q rfl (q_assign (x := .d (.v _)) rfl) ?_
          refine aops_nil ?_
          change Awp _ _ _ _ _
          refine awp_seq ?_
          refine awp_region 6 mixed (by kernel_rfl) ?_
          refine rg_q (q_load_refA sz54 rfl rfl rfl rfl) ?_
          refine rg_q (q_loadA (ds := [_, _]) sz75 rfl rfl rfl) ?_
          refine rg_q (q_call en37 (.cons rfl (.cons rfl .nil)) rfl ((by have h := traceOfS_p ⟨s.ar, s.pl, [y]⟩ pr; rw [tA] at h; exact h))) ?_
          refine rg_q (q_move (x := .d (.tup _)) rfl) ?_
          refine rg_q (q_extract rfl rfl) ?_
          refine rg_q (q_extract rfl rfl) ?_
          refine rg_nil ?_
          refine aops_allocD zr61 rfl sz61 rfl rfl (by exact .inr ⟨_, rfl⟩) lA rfl ?_
          refine aops_q rfl (q_assign (x := .d (.v _)) rfl) ?_
          refine aops_nil ?_
          change Awp _ _ _ _ _
          refine awp_seq ?_
          refine Awp.le (le_freezeTB 10 64 12 rfl rfl rfl rfl hmine) ?_
          refine Awp.le (le_boxT 10 (spcC (ngS s)) rfl rfl (by intro j d h; match j, h with | 0, h | 1, h | 2, h | 3, h | 4, h | 5, h | 6, h | 7, h | 8, h | 9, h | 10, h | 11, h | 12, h => cases h; rfl)) ?_
          refine awp_region 6 mixed (by kernel_rfl) ?_
          refine rg_q (q_load_refA sz54 rfl rfl rfl rfl) ?_
          refine rg_q (q_loadA (ds := [_, _]) sz75 rfl rfl rfl) ?_
          refine rg_q (q_call en37 (.cons rfl (.cons rfl .nil)) rfl ((by have h := traceOfS_p (ngS s) pr; rw [tT] at h; exact h))) ?_
          refine rg_q (q_move (x := .d (.tup _)) rfl) ?_
          refine rg_q (q_extract rfl rfl) ?_
          refine rg_q (q_extract rfl rfl) ?_
          refine rg_nil ?_
          refine aops_allocD zr61 rfl sz61 rfl rfl (by exact .inr ⟨_, rfl⟩) lT rfl ?_
          refine aops_q rfl (q_assign (x := .d (.v _)) rfl) ?_
          refine aops_nil ?_
          change Awp _ _ _ _ _
          refine awp_seq ?_
          refine awp_seq ?_
          refine awp_region 2 mixed (by kernel_rfl) ?_
          refine rg_q (q_move (x := .d (.v _)) rfl) ?_
          refine rg_q (q_neq rfl rfl) ?_
          refine rg_nil ?_
          refine aops_nil ?_
          change Awp _ _ _ _ _
          refine awp_cond rfl (fun hc17 => ?_) (fun hc17 => ?_)
          ·
            simp at hc17
          ·
            (try simp only [decide_eq_true_eq, decide_eq_false_iff_not, Bool.and_eq_true, Bool.or_eq_true, Bool.and_eq_false_iff, Bool.or_eq_false_iff, Bool.not_eq_true', Bool.not_eq_false', Bool.not_true, Bool.not_false, bif_and, bif_or, Bool.not_not, ne_eq, Decidable.not_not, not_true_eq_false, not_false_eq_true, Int.not_le, Int.not_lt] at hc17)
            refine awp_skip ?_
            change Awp _ _ _ _ _
            refine awp_seq ?_
            refine awp_seq ?_
            refine awp_region 11 mixed (by kernel_rfl) ?_
            refine rg_q (q_move (x := .d (.v _)) rfl) ?_
            refine rg_q (q_move (x := .d (.v _)) rfl) ?_
            refine rg_q (q_neq rfl rfl) ?_
            refine rg_q (q_move (x := .d (.v _)) rfl) ?_
            refine rg_g rfl rfl (fun hG => (q_move (x := .d (.v _)) rfl)) ?_
            refine rg_g rfl rfl (fun hG => (q_neq rfl rfl)) ?_
            refine rg_g rfl rfl (fun hG => (q_move (x := .d (.v _)) rfl)) ?_
            refine rg_g rfl rfl (fun hG => (q_move (x := .d (.v _)) rfl)) ?_
            refine rg_g rfl rfl (fun hG => (q_neq rfl rfl)) ?_
            refine rg_pickg rfl rfl rfl rfl rfl rfl rfl rfl ?_
            refine rg_pick rfl rfl rfl rfl rfl rfl ?_
            refine rg_nil ?_
            refine aops_nil ?_
            change Awp _ _ _ _ _
            refine awp_cond rfl (fun hc19 => ?_) (fun hc19 => ?_)
            ·
              rw [smE_ng] at hc19
              rcases smE_01 s pr with e | e <;> rw [e] at hc19 <;> simp at hc19
            ·
              (try simp only [decide_eq_true_eq, decide_eq_false_iff_not, Bool.and_eq_true, Bool.or_eq_true, Bool.and_eq_false_iff, Bool.or_eq_false_iff, Bool.not_eq_true', Bool.not_eq_false', Bool.not_true, Bool.not_false, bif_and, bif_or, Bool.not_not, ne_eq, Decidable.not_not, not_true_eq_false, not_false_eq_true, Int.not_le, Int.not_lt] at hc19)
              refine awp_skip ?_
              change Awp _ _ _ _ _
              refine awp_seq ?_
              refine awp_seq ?_
              refine awp_region 2 mixed (by kernel_rfl) ?_
              refine rg_q (q_move (x := .d (.v _)) rfl) ?_
              refine rg_q (q_neq rfl rfl) ?_
              refine rg_nil ?_
              refine aops_nil ?_
              change Awp _ _ _ _ _
              refine awp_cond rfl (fun hc21 => ?_) (fun hc21 => ?_)
              ·
                (try simp only [decide_eq_true_eq, decide_eq_false_iff_not, Bool.and_eq_true, Bool.or_eq_true, Bool.and_eq_false_iff, Bool.or_eq_false_iff, Bool.not_eq_true', Bool.not_eq_false', Bool.not_true, Bool.not_false, bif_and, bif_or, Bool.not_not, ne_eq, Decidable.not_not, not_true_eq_false, not_false_eq_true, Int.not_le, Int.not_lt] at hc21)
                refine awp_seq ?_
                refine awp_region 1 mixed (by kernel_rfl) ?_
                refine rg_q (q_assign (x := .d (.v _)) rfl) ?_
                refine rg_nil ?_
                refine aops_nil ?_
                change Awp _ _ _ _ _
                refine awp_ret ?_
                refine ⟨_, (.cons (.tmp (by exact .d _)) .nil), ?_⟩
                rfl
              ·
                (try simp only [decide_eq_true_eq, decide_eq_false_iff_not, Bool.and_eq_true, Bool.or_eq_true, Bool.and_eq_false_iff, Bool.or_eq_false_iff, Bool.not_eq_true', Bool.not_eq_false', Bool.not_true, Bool.not_false, bif_and, bif_or, Bool.not_not, ne_eq, Decidable.not_not, not_true_eq_false, not_false_eq_true, Int.not_le, Int.not_lt] at hc21)
                have hE : smE s pr = 0 := by simpa using hc21
                have hT : smE (ngS s) pr = 0 := by rw [smE_ng]; exact hE
                refine awp_skip ?_
                change Awp _ _ _ _ _
                refine awp_seq ?_
                refine awp_seq ?_
                refine awp_region 1 mixed (by kernel_rfl) ?_
                refine rg_q (q_assign (x := .d (.v _)) rfl) ?_
                refine rg_nil ?_
                refine aops_nil ?_
                change Awp _ _ _ _ _
                refine awp_block ?_
                refine awp_loopH [6, 20, 136, 137, 138, 139, 140, 141, 142, 143, 144, 145, 146, 147, 148, 149, 150, 151, 152, 153, 154, 155, 156, 157, 158, 159, 160, 161, 162, 163, 164, 165, 166, 167, 168] [] (α := Nat) (fun k => [(20, T.i (k : Int))]) (fun k => []) (fun k => k ≤ 64) (fun k => 64 - k) 0 (Nat.zero_le _) ?_ ?_
                · exact le_head (ms := []) (by repeat (exact Out.refl _)) ⟨(by rfl), trivial⟩ trivial rfl rfl rfl rfl
                ·
                  intro k hk
                  refine awp_seq ?_
                  refine awp_seq ?_
                  refine awp_region 2 mixed (by kernel_rfl) ?_
                  refine rg_q (q_move (x := .d (.v _)) rfl) ?_
                  refine rg_q (q_lss rfl rfl) ?_
                  refine rg_nil ?_
                  refine aops_nil ?_
                  change Awp _ _ _ _ _
                  refine awp_cond rfl (fun hc24 => ?_) (fun hc24 => ?_)
                  ·
                    (try simp only [decide_eq_true_eq, decide_eq_false_iff_not, Bool.and_eq_true, Bool.or_eq_true, Bool.and_eq_false_iff, Bool.or_eq_false_iff, Bool.not_eq_true', Bool.not_eq_false', Bool.not_true, Bool.not_false, bif_and, bif_or, Bool.not_not, ne_eq, Decidable.not_not, not_true_eq_false, not_false_eq_true, Int.not_le, Int.not_lt] at hc24)
                    have hlt : k < 64 := by omega
                    have bS := smZ_in s pr k
                    have bW := smZ_in (woS s i) pr k
                    have bA := smZ_in ⟨s.ar, s.pl, [y]⟩ pr k
                    have hneg : ordB .neq (FloatKind.f32.format.order (FloatKind.f32.nearest ((smZ (ngS s) pr).getD k 0)) (Op.negFloat .f32 (FloatKind.f32.nearest ((smZ s pr).getD k 0)))) = false := by
                      have e : (smZ (ngS s) pr).getD k 0 = -((smZ s pr).getD k 0) := by
                        rw [smZ_ok hE, smZ_ok hT, smA_ng, List.getD_eq_getElem?_getD, List.getD_eq_getElem?_getD, List.getElem?_map, List.getElem?_eq_getElem (by rw [smA_len]; exact hlt)]; rfl
                      rw [e, f32_neg (f32_of (by omega) (by omega))]; rfl
                    have hsum := f32_add (f32_of (show -16777215 ≤ (smZ (woS s i) pr).getD k 0 by omega) (by omega)) (f32_of (show -16777215 ≤ (smZ ⟨s.ar, s.pl, [y]⟩ pr).getD k 0 by omega) (by omega)) (f32_of (by omega) (by omega))
                    have heq : ordB .neq (FloatKind.f32.format.order (FloatKind.f32.nearest ((smZ s pr).getD k 0)) (FloatKind.f32.nearest ((smZ (woS s i) pr).getD k 0 + (smZ ⟨s.ar, s.pl, [y]⟩ pr).getD k 0))) = !decide ((smZ s pr).getD k 0 = (smZ (woS s i) pr).getD k 0 + (smZ ⟨s.ar, s.pl, [y]⟩ pr).getD k 0) := by
                      rw [f32_ord (f32_of (by omega) (by omega)) (f32_of (by omega) (by omega))]
                      rcases Int.lt_trichotomy ((smZ s pr).getD k 0) ((smZ (woS s i) pr).getD k 0 + (smZ ⟨s.ar, s.pl, [y]⟩ pr).getD k 0) with q | q | q
                      · rw [Int.compare_eq_lt.2 q, decide_eq_false (by omega)]; rfl
                      · rw [← q, decide_eq_true rfl]; simp [ordB]
                      · rw [Int.compare_eq_gt.2 q, decide_eq_false (by omega)]; rfl
                    refine awp_skip ?_
                    change Awp _ _ _ _ _
                    refine awp_seq ?_
                    refine awp_block ?_
                    refine awp_seq ?_
                    refine awp_region 29 mixed (by kernel_rfl) ?_
                    refine rg_q (q_move (x := .d (.v _)) rfl) ?_
                    refine rg_q (q_indexAddr_ar ar61 rfl rfl (by omega) (by omega)) ?_
                    refine rg_q (q_load sz59 rfl (fv_at (smZ_len _ _) hlt)) ?_
                    refine rg_q (q_move (x := .d (.v _)) rfl) ?_
                    refine rg_q (q_indexAddr_aref ar61 rfl rfl (by omega) (by omega)) ?_
                    refine rg_q (q_load_ref sz59 rfl rfl (fv_at (smZ_len _ _) hlt)) ?_
                    refine rg_q (q_fneg rfl) ?_
                    refine rg_q (q_fcmp (by decide) rfl rfl hneg) ?_
                    refine rg_q (q_move (x := .d (.v _)) rfl) ?_
                    refine rg_g rfl rfl (fun hG => (q_move (x := .d (.v _)) rfl)) ?_
                    refine rg_g rfl rfl (fun hG => (q_eql rfl rfl)) ?_
                    refine rg_g rfl rfl (fun hG => (q_move (x := .d (.v _)) rfl)) ?_
                    refine rg_g rfl rfl (fun hG => (q_move (x := .d (.v _)) rfl)) ?_
                    refine rg_g rfl rfl (fun hG => (q_eql rfl rfl)) ?_
                    refine rg_pickg rfl rfl rfl rfl rfl rfl rfl rfl ?_
                    refine rg_g rfl rfl (fun hG => (q_move (x := .d (.v _)) rfl)) ?_
                    refine rg_g rfl rfl (fun hG => (q_move (x := .d (.v _)) rfl)) ?_
                    refine rg_g rfl rfl (fun hG => (q_indexAddr_aref ar61 rfl rfl (by (have hg0 := T.bool_inj (a := _) hG.1; (try simp only [decide_eq_true_eq, decide_eq_false_iff_not, Bool.and_eq_true, Bool.or_eq_true, Bool.and_eq_false_iff, Bool.or_eq_false_iff, Bool.not_eq_true', Bool.not_eq_false', Bool.not_true, Bool.not_false, bif_and, bif_or, Bool.not_not, ne_eq, Decidable.not_not, not_true_eq_false, not_false_eq_true, Int.not_le, Int.not_lt] at hg0); have hg1 := T.bool_inj (a := _) hG.2.1; (try simp only [decide_eq_true_eq, decide_eq_false_iff_not, Bool.and_eq_true, Bool.or_eq_true, Bool.and_eq_false_iff, Bool.or_eq_false_iff, Bool.not_eq_true', Bool.not_eq_false', Bool.not_true, Bool.not_false, bif_and, bif_or, Bool.not_not, ne_eq, Decidable.not_not, not_true_eq_false, not_false_eq_true, Int.not_le, Int.not_lt] at hg1); omega)) (by (have hg0 := T.bool_inj (a := _) hG.1; (try simp only [decide_eq_true_eq, decide_eq_false_iff_not, Bool.and_eq_true, Bool.or_eq_true, Bool.and_eq_false_iff, Bool.or_eq_false_iff, Bool.not_eq_true', Bool.not_eq_false', Bool.not_true, Bool.not_false, bif_and, bif_or, Bool.not_not, ne_eq, Decidable.not_not, not_true_eq_false, not_false_eq_true, Int.not_le, Int.not_lt] at hg0); have hg1 := T.bool_inj (a := _) hG.2.1; (try simp only [decide_eq_true_eq, decide_eq_false_iff_not, Bool.and_eq_true, Bool.or_eq_true, Bool.and_eq_false_iff, Bool.or_eq_false_iff, Bool.not_eq_true', Bool.not_eq_false', Bool.not_true, Bool.not_false, bif_and, bif_or, Bool.not_not, ne_eq, Decidable.not_not, not_true_eq_false, not_false_eq_true, Int.not_le, Int.not_lt] at hg1); omega)))) ?_
                    refine rg_g rfl rfl (fun hG => (q_load_ref sz59 rfl rfl (fv_at (smZ_len _ _) hlt))) ?_
                    refine rg_g rfl rfl (fun hG => (q_move (x := .d (.v _)) rfl)) ?_
                    refine rg_g rfl rfl (fun hG => (q_indexAddr_ar ar61 rfl rfl (by (have hg0 := T.bool_inj (a := _) hG.1; (try simp only [decide_eq_true_eq, decide_eq_false_iff_not, Bool.and_eq_true, Bool.or_eq_true, Bool.and_eq_false_iff, Bool.or_eq_false_iff, Bool.not_eq_true', Bool.not_eq_false', Bool.not_true, Bool.not_false, bif_and, bif_or, Bool.not_not, ne_eq, Decidable.not_not, not_true_eq_false, not_false_eq_true, Int.not_le, Int.not_lt] at hg0); have hg1 := T.bool_inj (a := _) hG.2.1; (try simp only [decide_eq_true_eq, decide_eq_false_iff_not, Bool.and_eq_true, Bool.or_eq_true, Bool.and_eq_false_iff, Bool.or_eq_false_iff, Bool.not_eq_true', Bool.not_eq_false', Bool.not_true, Bool.not_false, bif_and, bif_or, Bool.not_not, ne_eq, Decidable.not_not, not_true_eq_false, not_false_eq_true, Int.not_le, Int.not_lt] at hg1); omega)) (by (have hg0 := T.bool_inj (a := _) hG.1; (try simp only [decide_eq_true_eq, decide_eq_false_iff_not, Bool.and_eq_true, Bool.or_eq_true, Bool.and_eq_false_iff, Bool.or_eq_false_iff, Bool.not_eq_true', Bool.not_eq_false', Bool.not_true, Bool.not_false, bif_and, bif_or, Bool.not_not, ne_eq, Decidable.not_not, not_true_eq_false, not_false_eq_true, Int.not_le, Int.not_lt] at hg0); have hg1 := T.bool_inj (a := _) hG.2.1; (try simp only [decide_eq_true_eq, decide_eq_false_iff_not, Bool.and_eq_true, Bool.or_eq_true, Bool.and_eq_false_iff, Bool.or_eq_false_iff, Bool.not_eq_true', Bool.not_eq_false', Bool.not_true, Bool.not_false, bif_and, bif_or, Bool.not_not, ne_eq, Decidable.not_not, not_true_eq_false, not_false_eq_true, Int.not_le, Int.not_lt] at hg1); omega)))) ?_
                    refine rg_g rfl rfl (fun hG => (q_load sz59 rfl (fv_at (smZ_len _ _) hlt))) ?_
                    refine rg_g rfl rfl (fun hG => (q_move (x := .d (.v _)) rfl)) ?_
                    refine rg_g rfl rfl (fun hG => (q_indexAddr_ar ar61 rfl rfl (by (have hg0 := T.bool_inj (a := _) hG.1; (try simp only [decide_eq_true_eq, decide_eq_false_iff_not, Bool.and_eq_true, Bool.or_eq_true, Bool.and_eq_false_iff, Bool.or_eq_false_iff, Bool.not_eq_true', Bool.not_eq_false', Bool.not_true, Bool.not_false, bif_and, bif_or, Bool.not_not, ne_eq, Decidable.not_not, not_true_eq_false, not_false_eq_true, Int.not_le, Int.not_lt] at hg0); have hg1 := T.bool_inj (a := _) hG.2.1; (try simp only [decide_eq_true_eq, decide_eq_false_iff_not, Bool.and_eq_true, Bool.or_eq_true, Bool.and_eq_false_iff, Bool.or_eq_false_iff, Bool.not_eq_true', Bool.not_eq_false', Bool.not_true, Bool.not_false, bif_and, bif_or, Bool.not_not, ne_eq, Decidable.not_not, not_true_eq_false, not_false_eq_true, Int.not_le, Int.not_lt] at hg1); omega)) (by (have hg0 := T.bool_inj (a := _) hG.1; (try simp only [decide_eq_true_eq, decide_eq_false_iff_not, Bool.and_eq_true, Bool.or_eq_true, Bool.and_eq_false_iff, Bool.or_eq_false_iff, Bool.not_eq_true', Bool.not_eq_false', Bool.not_true, Bool.not_false, bif_and, bif_or, Bool.not_not, ne_eq, Decidable.not_not, not_true_eq_false, not_false_eq_true, Int.not_le, Int.not_lt] at hg0); have hg1 := T.bool_inj (a := _) hG.2.1; (try simp only [decide_eq_true_eq, decide_eq_false_iff_not, Bool.and_eq_true, Bool.or_eq_true, Bool.and_eq_false_iff, Bool.or_eq_false_iff, Bool.not_eq_true', Bool.not_eq_false', Bool.not_true, Bool.not_false, bif_and, bif_or, Bool.not_not, ne_eq, Decidable.not_not, not_true_eq_false, not_false_eq_true, Int.not_le, Int.not_lt] at hg1); omega)))) ?_
                    refine rg_g rfl rfl (fun hG => (q_load sz59 rfl (fv_at (smZ_len _ _) hlt))) ?_
                    refine rg_g rfl rfl (fun hG => (q_fbin (by decide) rfl rfl hsum)) ?_
                    refine rg_g rfl rfl (fun hG => (q_fcmp (by decide) rfl rfl heq)) ?_
                    refine rg_pickg rfl rfl rfl rfl rfl rfl rfl rfl ?_
                    refine rg_pick rfl rfl rfl rfl rfl rfl ?_
                    refine rg_nil ?_
                    refine aops_nil ?_
                    change Awp _ _ _ _ _
                    refine awp_cond rfl (fun hc26 => ?_) (fun hc26 => ?_)
                    ·
                      simp at hc26
                      obtain ⟨⟨e1, e2⟩, e3⟩ := hc26
                      exact (e3 (by rw [smZ_ok hE, smZ_ok e1, smZ_ok e2]; exact smA_add hy hlt)).elim
                    ·
                      (try simp only [decide_eq_true_eq, decide_eq_false_iff_not, Bool.and_eq_true, Bool.or_eq_true, Bool.and_eq_false_iff, Bool.or_eq_false_iff, Bool.not_eq_true', Bool.not_eq_false', Bool.not_true, Bool.not_false, bif_and, bif_or, Bool.not_not, ne_eq, Decidable.not_not, not_true_eq_false, not_false_eq_true, Int.not_le, Int.not_lt] at hc26)
                      refine awp_skip ?_
                      change Awp _ _ _ _ _
                      refine awp_region 3 mixed (by kernel_rfl) ?_
                      refine rg_q (q_move (x := .d (.v _)) rfl) ?_
                      refine rg_q (q_add rfl rfl (In64.mk (by omega) (by omega))) ?_
                      refine rg_q (q_assign (x := .d (.v _)) rfl) ?_
                      refine rg_nil ?_
                      refine aops_nil ?_
                      refine ⟨k + 1, by omega, by omega, ?_⟩
                      exact le_head (ms := []) (by repeat (first | exact Out.head rfl rfl | (refine Out.put ?_ rfl))) ⟨(by rfl), trivial⟩ trivial rfl rfl rfl rfl
                  ·
                    (try simp only [decide_eq_true_eq, decide_eq_false_iff_not, Bool.and_eq_true, Bool.or_eq_true, Bool.and_eq_false_iff, Bool.or_eq_false_iff, Bool.not_eq_true', Bool.not_eq_false', Bool.not_true, Bool.not_false, bif_and, bif_or, Bool.not_not, ne_eq, Decidable.not_not, not_true_eq_false, not_false_eq_true, Int.not_le, Int.not_lt] at hc24)
                    refine awp_exit ?_
                    change Awp _ _ _ _ _
                    refine awp_seq ?_
                    refine awp_region 15 mixed (by kernel_rfl) ?_
                    refine rg_q (q_move (x := .d (.v _)) rfl) ?_
                    refine rg_q (q_eql rfl rfl) ?_
                    refine rg_q (q_move (x := .d (.v _)) rfl) ?_
                    refine rg_g rfl rfl (fun hG => (q_move (x := .d (.v _)) rfl)) ?_
                    refine rg_g rfl rfl (fun hG => (q_eql rfl rfl)) ?_
                    refine rg_pick rfl rfl rfl rfl rfl rfl ?_
                    refine rg_q (q_move (x := .d (.v _)) rfl) ?_
                    refine rg_g rfl rfl (fun hG => (q_move (x := .d (.v _)) rfl)) ?_
                    refine rg_g rfl rfl (fun hG => (q_eql rfl rfl)) ?_
                    refine rg_g rfl rfl (fun hG => (q_move (x := .d (.v _)) rfl)) ?_
                    refine rg_g rfl rfl (fun hG => (q_move (x := .d (.v _)) rfl)) ?_
                    refine rg_g rfl rfl (fun hG => (q_eql rfl rfl)) ?_
                    refine rg_pickg rfl rfl rfl rfl rfl rfl rfl rfl ?_
                    refine rg_pick rfl rfl rfl rfl rfl rfl ?_
                    refine rg_q (q_assign (x := .d (.v _)) rfl) ?_
                    refine rg_nil ?_
                    refine aops_nil ?_
                    change Awp _ _ _ _ _
                    refine awp_ret ?_
                    refine ⟨_, (.cons (.tmp (by exact .d _)) .nil), ?_⟩
                    rcases smE_01 (woS s i) pr with e1 | e1 <;> rcases smE_01 ⟨s.ar, s.pl, [y]⟩ pr with e2 | e2 <;> simp [e1, e2, retD]
end Go.Proofs.Ytblbnagdhcpnoaa.Am.M
