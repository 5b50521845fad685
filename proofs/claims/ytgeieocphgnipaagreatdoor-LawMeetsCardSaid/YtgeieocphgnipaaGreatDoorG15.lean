/- Contracts over the abstract machine: the focus is met: plain laws, LawMeets. Conditions: none. -/
import Derived.Test.YtgeieocphgnipaaGreatDoorG18
import Derived.Test.YtgeieocphgnipaaGreatDoorG14
set_option linter.unusedVariables false
set_option linter.unusedSimpArgs false
-- mini
namespace Go.Proofs.YtgeieocphgnipaaGreatDoor.Am.M
open Go

theorem flo_le_ceil {x y v : Int} (hv : 0 < v) (h : x ≤ y) : x / v ≤ ceilI y v := by
  unfold ceilI
  have h1 : x / v * v ≤ x := Int.ediv_mul_le _ (by omega)
  have h2 : -y / v * v ≤ -y := Int.ediv_mul_le _ (by omega)
  have h3 : (x / v + -y / v) * v ≤ 0 := by rw [Int.add_mul]; omega
  rcases Int.lt_or_le 0 (x / v + -y / v) with q | q
  · have := Int.mul_pos q hv; omega
  · omega
theorem tim_le {r : Rg} {v : Int} (hr : LenIn r) (hv : 500 ≤ v) : (timI r v).1 ≤ (timI r v).2 := by
  unfold timI
  exact flo_le_ceil (by omega) (by have := hr.e; omega)
theorem timeAt_le {x : Crs} {t : Int} (hx : CrsOk x) (h1 : -100000 ≤ t) (h2 : t ≤ 100000) : (timeAtI x t).1 ≤ (timeAtI x t).2 := by
  obtain ⟨a1, a2, b1, b2, c1, c2, d1, d2, e1, e2, f1, f2⟩ := hx
  have l1 := tim_le (len_in (x := t - x.x1) (z := x.h1) (by omega) (by omega) (by omega) (by omega)) e1
  have l2 := tim_le (len_in (x := x.x2 - t) (z := x.h2) (by omega) (by omega) (by omega) (by omega)) f1
  unfold timeAtI
  simp only
  omega
theorem least_le {x : Crs} (hx : CrsOk x) : (leastI x).1 ≤ (leastI x).2 := by
  have hs := cross_spec hx
  have hx0 := hx
  obtain ⟨a1, a2, b1, b2, c1, c2, d1, d2, e1, e2, f1, f2⟩ := hx0
  have hl : -100000 ≤ loX x ∧ hiX x ≤ 100000 := by unfold loX hiX; omega
  have t1 := timeAt_le (t := crossI x) hx (by omega) (by omega)
  have u1 := up_in (n := 10000000) (d := x.v1 * x.h1) (by omega) (Int.mul_pos (by omega) (by omega))
  have u2 := up_in (n := 10000000) (d := x.v2 * x.h2) (by omega) (Int.mul_pos (by omega) (by omega))
  have hin := least_in hx
  have h0 : (least0 x).1 ≤ (least0 x).2 := by
    unfold least0
    split
    · rename_i h
      simp [inR] at h
      have t2 := timeAt_le (t := crossI x + 1) hx (by omega) (by omega)
      simp only; omega
    · exact t1
  have h2 : (leastI x).2 = (least0 x).2 := rfl
  have h1 : (leastI x).1 = max 0 ((least0 x).1 - ceilI 10000000 (x.v1 * x.h1) - ceilI 10000000 (x.v2 * x.h2)) := rfl
  have := hin.c
  omega
theorem lt_le {m : Md} (hm : MdOk m) {a b : Int × Int} (hw : wayE m a b = 0) : (ltI m a b).1.1 ≤ (ltI m a b).1.2 := by
  rw [lt_is hm hw]
  exact least_le (way_law hm hw).2
theorem rnd_law {n b : Int} (hb : 0 < b) : 2 * n - b < 2 * (rndL n b * b) ∧ 2 * (rndL n b * b) ≤ 2 * n + b := by
  unfold rndL
  have h1 : (2 * n + b) / (2 * b) * (2 * b) ≤ 2 * n + b := Int.ediv_mul_le _ (by omega)
  have h2 : 2 * n + b < ((2 * n + b) / (2 * b) + 1) * (2 * b) := Int.lt_ediv_add_one_mul_self _ (by omega)
  generalize (2 * n + b) / (2 * b) = q at *
  have e1 : q * (2 * b) = 2 * (q * b) := by grind
  have e2 : (q + 1) * (2 * b) = 2 * (q * b) + 2 * b := by grind
  omega
theorem rnd_nonneg {n b : Int} (hn : 0 ≤ n) (hb : 0 < b) : 0 ≤ rndL n b := by
  unfold rndL
  exact Int.ediv_nonneg (by omega) (by omega)
theorem rnd_zero {b : Int} (hb : 0 < b) : rndL 0 b = 0 := by
  unfold rndL
  exact Int.ediv_eq_zero_of_lt (by omega) (by omega)
/-- The law of a focus. -/
def fxL (a : Lar) (p : Int × Int) : Dly := ⟨a.ck, bltL (fcI a p) a.el.length⟩
theorem fx_len (a : Lar) (p : Int × Int) : (fxL a p).tk.length = a.el.length := bltL_len _ _
theorem foc_bad {a : Lar} {p : Int × Int} (h : (focR a p).2 ≠ 0) : (focR a p).1 = ⟨0, []⟩ := by
  unfold focR at h ⊢
  by_cases h1 : focE a p ≠ 0
  · rw [if_pos h1]
  · rw [if_neg h1] at h ⊢
    rcases bltR_cases (fcI a p) a.ck a.el.length with ⟨_, k⟩ | k
    · rw [k] at h; exact absurd rfl h
    · rw [k]
theorem foc_ok {a : Lar} {p : Int × Int} (h : (focR a p).2 = 0) : (ckLar a).2 = 0 ∧ plcE a p = 0 ∧ focR a p = (fxL a p, 0) ∧ ∀ i : Nat, i < a.el.length → fcI a p (i : Int) ≤ 1000000 := by
  unfold focR at h ⊢
  by_cases h1 : focE a p ≠ 0
  · rw [if_pos h1] at h; exact absurd h h1
  · rw [if_neg h1] at h ⊢
    have h2 := Decidable.not_not.1 h1
    unfold focE at h2
    by_cases h3 : (ckLar a).2 ≠ 0
    · rw [if_pos h3] at h2; exact absurd h2 h3
    · rw [if_neg h3] at h2
      rcases bltR_cases (fcI a p) a.ck a.el.length with ⟨k1, k⟩ | k
      · exact ⟨Decidable.not_not.1 h3, h2, k, k1⟩
      · rw [k] at h; exact absurd h (by decide)
theorem fcI_nonneg {a : Lar} {p s : Int × Int} {k : Nat} (hc : 1 ≤ a.ck) (h : a.el[k]? = some s) : 0 ≤ fcI a p (k : Int) := by
  rw [fcI_at h]
  exact rnd_nonneg (by have := maxF_ge (List.mem_of_getElem? (fcT_at (p := p) h)); omega) (by omega)
theorem fx_at {a : Lar} {p : Int × Int} {k : Nat} (h : k < a.el.length) : (fxL a p).tk[k]? = some (fcI a p (k : Int)) := bltL_at h
theorem fx_ok {a : Lar} {p : Int × Int} (hla : LarOk a) (hT : ∀ i : Nat, i < a.el.length → fcI a p (i : Int) ≤ 1000000) : (ckLaw (fxL a p)).2 = 0 := by
  have e0 : dlyE0 (fxL a p) = 0 := by
    unfold dlyE0
    rw [fx_len]
    have h1 : clkE (fxL a p).ck = 0 := by unfold clkE; rw [if_pos (by show inR 1 a.ck 1000000 = true; unfold inR; rw [decide_eq_true hla.c1, decide_eq_true hla.c2]; rfl)]
    have h2 : cntE a.el.length = 0 := by unfold cntE; rw [if_neg (by have := hla.n1; omega), if_neg (by have := hla.n2; omega)]
    rw [h1, h2]; rfl
  unfold ckLaw
  rw [e0, if_neg (fun q => q rfl), ckTk_zero]
  intro n hn
  obtain ⟨i, hi, rfl⟩ := List.mem_map.1 hn
  have hi := List.mem_range.1 hi
  have := hT i hi
  have := fcI_nonneg (p := p) hla.c1 (List.getElem?_eq_getElem hi)
  omega
theorem fx_snd {a : Lar} {p : Int × Int} (hla : LarOk a) {i : Nat} (h : i < a.el.length) : ((i : Int), fcI a p (i : Int)) ∈ sndL (fxL a p) := by
  have h1 := sndTo_yes (fx_at (p := p) h) (fcI_nonneg (p := p) hla.c1 (List.getElem?_eq_getElem h))
  have h2 : ((i : Int), fcI a p (i : Int)) ∈ sndTo (fxL a p).tk (i + 1) := by rw [h1]; simp
  exact (sndTo_pre (show i + 1 ≤ (fxL a p).tk.length by rw [fx_len]; omega)).subset h2
def wdL (a : Lar) (p : Int × Int) : List Int := a.el.map fun s => (ltI a.md s p).1.2 - (ltI a.md s p).1.1
def wid (a : Lar) (p : Int × Int) : Int := fdF max 0 (wdL a p) a.el.length
theorem wd_at {a : Lar} {p s : Int × Int} {k : Nat} (h : a.el[k]? = some s) : (wdL a p)[k]? = some ((ltI a.md s p).1.2 - (ltI a.md s p).1.1) := by unfold wdL; rw [List.getElem?_map, h]; rfl
theorem foldmax_ge : ∀ {l : List Int} {z x : Int}, x ∈ l ∨ x ≤ z → x ≤ l.foldl max z
  | [], z, x, h => by
    rcases h with h | h
    · cases h
    · exact h
  | y :: ys, z, x, h => by
    show x ≤ ys.foldl max (max z y)
    refine foldmax_ge ?_
    rcases h with h | h
    · rcases List.mem_cons.1 h with rfl | h
      · right; omega
      · left; exact h
    · right; omega
theorem wid_ge {a : Lar} {p s : Int × Int} (h : s ∈ a.el) : (ltI a.md s p).1.2 - (ltI a.md s p).1.1 ≤ wid a p := by
  unfold wid fdF
  have hl : (wdL a p).length = a.el.length := List.length_map _
  rw [← hl, List.take_length]
  exact foldmax_ge (.inl (List.mem_map.2 ⟨s, h, rfl⟩))
/-- The arrivals at the focus lie close together. -/
theorem arr_close {a : Lar} {p : Int × Int} (hla : LarOk a) (hp : plcE a p = 0) : ∀ r ∈ arrL a (fxL a p) p, r.1 ≤ r.2 ∧ 2 * maxF (fcT a p) - wid a p - a.ck + 1 ≤ 2 * r.1 ∧ 2 * r.2 ≤ wid a p + 1 + 2 * maxF (fcT a p) + a.ck := by
  intro r hr
  obtain ⟨y, hy, rfl⟩ := List.mem_map.1 hr
  obtain ⟨b1, b2, b3, b4⟩ := sndTo_in (Nat.le_refl _) (show y ∈ sndTo (fxL a p).tk (fxL a p).tk.length from hy)
  have hlt : y.1.toNat < a.el.length := by rw [fx_len] at b2; omega
  have hs := List.getElem?_eq_getElem hlt
  have hyv : y.2 = fcI a p ((y.1.toNat : Nat) : Int) := by
    rw [fx_at hlt] at b3
    exact (Option.some.inj b3).symm
  rw [fcI_at (p := p) hs] at hyv
  generalize a.el[y.1.toNat] = s at *
  have hmem := List.mem_of_getElem? hs
  obtain ⟨_, _, hw⟩ := lt_ok hla hp hmem
  have hle := lt_le hla.md hw
  have hwd := wid_ge (p := p) hmem
  have hrl := rnd_law (n := maxF (fcT a p) - rtI a.md s p) (b := a.ck) (by have := hla.c1; omega)
  have he : elA a y.1 = s := by unfold elA; rw [List.getD_eq_getElem?_getD, hs]; rfl
  have ht : rtI a.md s p = ((ltI a.md s p).1.1 + (ltI a.md s p).1.2) / 2 := rfl
  unfold arrI
  rw [he, hyv]
  show (ltI a.md s p).1.1 + rndL (maxF (fcT a p) - rtI a.md s p) a.ck * a.ck ≤ (ltI a.md s p).1.2 + rndL (maxF (fcT a p) - rtI a.md s p) a.ck * a.ck ∧ 2 * maxF (fcT a p) - wid a p - a.ck + 1 ≤ 2 * ((ltI a.md s p).1.1 + rndL (maxF (fcT a p) - rtI a.md s p) a.ck * a.ck) ∧ 2 * ((ltI a.md s p).1.2 + rndL (maxF (fcT a p) - rtI a.md s p) a.ck * a.ck) ≤ wid a p + 1 + 2 * maxF (fcT a p) + a.ck
  generalize rndL (maxF (fcT a p) - rtI a.md s p) a.ck * a.ck = d at *
  omega
theorem spr_in {l : List (Int × Int)} (hn : l ≠ []) (h : ∀ r ∈ l, r.1 ≤ r.2) : 0 ≤ (sprI l).1 ∧ (sprI l).1 ≤ (sprI l).2 := by
  have n1 : los l ≠ [] := fun e => hn (by have := congrArg List.length e; simpa [los] using this)
  have n2 : his l ≠ [] := fun e => hn (by have := congrArg List.length e; simpa [his] using this)
  obtain ⟨r1, k1, e1⟩ := List.mem_map.1 (maxF_mem n1)
  obtain ⟨r2, k2, e2⟩ := List.mem_map.1 (minF_mem n2)
  have a1 : r1.2 ≤ maxF (his l) := maxF_ge (List.mem_map.2 ⟨r1, k1, rfl⟩)
  have a2 : minF (los l) ≤ r2.1 := minF_le (List.mem_map.2 ⟨r2, k2, rfl⟩)
  have a3 : minF (los l) ≤ r1.1 := minF_le (List.mem_map.2 ⟨r1, k1, rfl⟩)
  have a4 : r2.2 ≤ maxF (his l) := maxF_ge (List.mem_map.2 ⟨r2, k2, rfl⟩)
  have b1 := h r1 k1
  have b2 := h r2 k2
  have e1 : r1.1 = maxF (los l) := e1
  have e2 : r2.2 = minF (his l) := e2
  unfold sprI
  simp only
  omega
theorem spr_close {l : List (Int × Int)} {A B : Int} (hn : l ≠ []) (h : ∀ r ∈ l, A ≤ 2 * r.1 ∧ 2 * r.2 ≤ B) : 2 * (sprI l).2 ≤ B - A := by
  have n1 : los l ≠ [] := fun e => hn (by have := congrArg List.length e; simpa [los] using this)
  have n2 : his l ≠ [] := fun e => hn (by have := congrArg List.length e; simpa [his] using this)
  obtain ⟨r1, k1, e1⟩ := List.mem_map.1 (minF_mem n1)
  obtain ⟨r2, k2, e2⟩ := List.mem_map.1 (maxF_mem n2)
  have e1 : r1.1 = minF (los l) := e1
  have e2 : r2.2 = maxF (his l) := e2
  have b1 := (h r1 k1).1
  have b2 := (h r2 k2).2
  unfold sprI
  simp only
  omega
theorem spr_sub {l m : List (Int × Int)} (hn : m ≠ []) (h : ∀ r ∈ m, r ∈ l) : (sprI m).2 ≤ (sprI l).2 := by
  have n1 : los m ≠ [] := fun e => hn (by have := congrArg List.length e; simpa [los] using this)
  have n2 : his m ≠ [] := fun e => hn (by have := congrArg List.length e; simpa [his] using this)
  have s1 := mm_sub n1 (l := los l) fun v hv => by obtain ⟨r, hr, rfl⟩ := List.mem_map.1 hv; exact List.mem_map.2 ⟨r, h r hr, rfl⟩
  have s2 := mm_sub n2 (l := his l) fun v hv => by obtain ⟨r, hr, rfl⟩ := List.mem_map.1 hv; exact List.mem_map.2 ⟨r, h r hr, rfl⟩
  unfold sprI
  simp only
  omega
theorem met {a : Lar} {p : Int × Int} (hla : LarOk a) (hk : (ckLar a).2 = 0) (hp : plcE a p = 0) (hT : ∀ i : Nat, i < a.el.length → fcI a p (i : Int) ≤ 1000000) : (sprR a (fxL a p) p).2 = 0 ∧ 0 ≤ (sprR a (fxL a p) p).1.1 ∧ (sprR a (fxL a p) p).1.1 ≤ (sprR a (fxL a p) p).1.2 ∧ (sprR a (fxL a p) p).1.2 ≤ a.ck + 2 * wid a p := by
  have ho := opn_of hk (fx_ok hla hT) (fx_len a p)
  have hm := fx_snd (p := p) hla (show 0 < a.el.length from hla.n1)
  have hn : arrL a (fxL a p) p ≠ [] := fun e => by
    have := List.mem_map_of_mem (f := arrI a (fxL a p) p) hm
    rw [show (sndL (fxL a p)).map (arrI a (fxL a p) p) = [] from e] at this
    cases this
  have hc := arr_close hla hp
  have h1 := spr_in hn fun r hr => (hc r hr).1
  have h2 := spr_close hn fun r hr => (hc r hr).2
  have hw : 0 ≤ wid a p := foldmax_ge (.inr (Int.le_refl 0))
  have hck := hla.c1
  rw [sprR_is ho hp]
  unfold sprL
  rw [if_neg (fun e => hn (List.length_eq_zero_iff.1 e))]
  refine ⟨rfl, h1.1, h1.2, ?_⟩
  simp only
  omega
def stI (a : Lar) (p : Int × Int) (k : Nat) : Bool := (List.range k).any fun i => decide (fcI a p (i : Int) = 0)
theorem st_succ (a : Lar) (p : Int × Int) (k : Nat) : stI a p (k + 1) = (stI a p k || decide (fcI a p (k : Int) = 0)) := by unfold stI; rw [List.range_succ, List.any_append]; simp
theorem st_all {a : Lar} {p : Int × Int} (hla : LarOk a) : stI a p a.el.length = true := by
  have hfl : (fcT a p).length = a.el.length := List.length_map _
  have hne : fcT a p ≠ [] := fun e => by have := congrArg List.length e; have := hla.n1; simp only [List.length_nil] at *; omega
  obtain ⟨i, hi⟩ := List.getElem?_of_mem (maxF_mem hne)
  have hlt : i < a.el.length := by have := (List.getElem?_eq_some_iff.1 hi).1; omega
  have hs := List.getElem?_eq_getElem hlt
  have h1 := fcT_at (p := p) hs
  rw [hi] at h1
  have h2 := Option.some.inj h1
  unfold stI
  rw [List.any_eq_true]
  refine ⟨i, List.mem_range.2 hlt, decide_eq_true ?_⟩
  rw [fcI_at (p := p) hs, ← h2, Int.sub_self]
  exact rnd_zero (by have := hla.c1; omega)
theorem tmod_gt {n b : Int} (hb : 0 < b) : -b < n.tmod b := by
  rcases Int.le_total 0 n with h | h
  · have := Int.tmod_nonneg b h; omega
  · have h1 := Int.tmod_lt_of_pos (-n) hb
    rw [Int.neg_tmod] at h1
    omega
def modI (n b : Int) : Int := if n.tmod b < 0 then n.tmod b + b else n.tmod b
theorem modI_in {n b : Int} (hb : 1 ≤ b) : 0 ≤ modI n b ∧ modI n b < b := by
  have h1 := Int.tmod_lt_of_pos n (show 0 < b by omega)
  have h2 : -b < n.tmod b := tmod_gt (by omega)
  unfold modI
  split <;> omega
theorem wth_one {a : Lar} {p : Int × Int} {d : Int} (hla : LarOk a) (hk : (ckLar a).2 = 0) (hp : plcE a p = 0) (hT : ∀ i : Nat, i < a.el.length → fcI a p (i : Int) ≤ 1000000) (h2 : 2 ≤ a.el.length) (d0 : 0 ≤ d) (d1 : d < a.el.length) :
    wthR (fxL a p) [d] = (wth (fxL a p) [d], 0) ∧ (sprR a (wth (fxL a p) [d]) p).2 = 0 ∧ (sprR a (wth (fxL a p) [d]) p).1.2 ≤ (sprR a (fxL a p) p).1.2 := by
  have hx := fx_ok hla hT
  have hl := fx_len a p
  have hd : dedE (fxL a p).tk.length (-1) [d] = 0 := by
    unfold dedE
    rw [if_neg (by simp [inR]; omega), if_neg (by omega)]; rfl
  have ho := opn_of hk hx hl
  have ho2 := opn_wth (dead := [d]) ho
  obtain ⟨i, hi, hid⟩ : ∃ i : Nat, i < a.el.length ∧ (i : Int) ≠ d := by
    by_cases e : d = 0
    · exact ⟨1, by omega, by omega⟩
    · exact ⟨0, by omega, by omega⟩
  have hm := fx_snd (p := p) hla hi
  have hm2 : ((i : Int), fcI a p (i : Int)) ∈ sndL (wth (fxL a p) [d]) := by
    rw [snd_sub]
    refine List.mem_filter.2 ⟨hm, ?_⟩
    simp
    omega
  have hn : arrL a (wth (fxL a p) [d]) p ≠ [] := fun e => by
    have := List.mem_map_of_mem (f := arrI a (wth (fxL a p) [d]) p) hm2
    rw [show (sndL (wth (fxL a p) [d])).map (arrI a (wth (fxL a p) [d]) p) = [] from e] at this
    cases this
  have hsub : ∀ r ∈ arrL a (wth (fxL a p) [d]) p, r ∈ arrL a (fxL a p) p := by
    intro r hr
    obtain ⟨y, hy, rfl⟩ := List.mem_map.1 hr
    rw [snd_sub] at hy
    exact List.mem_map.2 ⟨y, (List.mem_filter.1 hy).1, rfl⟩
  have hn0 : arrL a (fxL a p) p ≠ [] := fun e => by
    obtain ⟨r, hr⟩ := List.exists_mem_of_ne_nil _ hn
    have := hsub r hr
    rw [e] at this; cases this
  have hs := spr_sub hn hsub
  rw [sprR_is ho hp, sprR_is ho2 hp]
  unfold sprL
  rw [if_neg (fun e => hn (List.length_eq_zero_iff.1 e)), if_neg (fun e => hn0 (List.length_eq_zero_iff.1 e))]
  refine ⟨?_, rfl, hs⟩
  unfold wthR
  rw [if_neg (fun q => q hx), if_neg (fun q => q hd)]
set_option maxRecDepth 100000 in
theorem mod_p (n b : Int) (h1 : 1 ≤ b) (h2 : b ≤ 1000) : PC Tryz.prog 43 [.v (.int .i64 (n)), .v (.int .i64 (b))] (.v (.int .i64 (modI n b))) := by
  have k1 := Int.tmod_lt_of_pos n (show 0 < b by omega)
  have k2 : -b < n.tmod b := tmod_gt (by omega)
  refine pc_of_awp Tryz.func43 rfl Tryz.ntmps43 (rs := [.tmp 4]) Tryz.results43 (by simp) fun w0 => ?_
  refine awp_seq ?_
  refine awp_region 1 mixed (by kernel_rfl) ?_
  refine rg_q (q_assign (x := .d (.v _)) rfl) ?_
  refine rg_nil ?_
  refine aops_nil ?_
  change Awp _ _ _ _ _
  refine awp_seq ?_
  refine awp_region 4 mixed (by kernel_rfl) ?_
  refine rg_q (q_move (x := .d (.v _)) rfl) ?_
  refine rg_q (q_move (x := .d (.v _)) rfl) ?_
  refine rg_q (q_rem rfl rfl (by omega)) ?_
  refine rg_q (q_assign (x := .d (.v _)) rfl) ?_
  refine rg_nil ?_
  refine aops_nil ?_
  change Awp _ _ _ _ _
  refine awp_seq ?_
  refine awp_seq ?_
  refine awp_region 2 mixed (by kernel_rfl) ?_
  refine rg_q (q_move (x := .d (.v _)) rfl) ?_
  refine rg_q (q_lss rfl rfl) ?_
  refine rg_nil ?_
  refine aops_nil ?_
  change Awp _ _ _ _ _
  refine awp_cond rfl (fun hc2 => ?_) (fun hc2 => ?_)
  ·
    (try simp only [decide_eq_true_eq, decide_eq_false_iff_not, Bool.and_eq_true, Bool.or_eq_true, Bool.and_eq_false_iff, Bool.or_eq_false_iff, Bool.not_eq_true', Bool.not_eq_false', Bool.not_true, Bool.not_false, bif_and, bif_or, Bool.not_not, ne_eq, Decidable.not_not, not_true_eq_false, not_false_eq_true, Int.not_le, Int.not_lt] at hc2)
    have hz : modI n b = n.tmod b + b := by unfold modI; rw [if_pos hc2]
    refine awp_region 4 mixed (by kernel_rfl) ?_
    refine rg_q (q_move (x := .d (.v _)) rfl) ?_
    refine rg_q (q_move (x := .d (.v _)) rfl) ?_
    refine rg_q (q_add rfl rfl (In64.mk (by omega) (by omega))) ?_
    refine rg_q (q_assign (x := .d (.v _)) rfl) ?_
    refine rg_nil ?_
    refine aops_nil ?_
    change Awp _ _ _ _ _
    refine awp_seq ?_
    refine awp_region 2 mixed (by kernel_rfl) ?_
    refine rg_q (q_move (x := .d (.v _)) rfl) ?_
    refine rg_q (q_assign (x := .d (.v _)) rfl) ?_
    refine rg_nil ?_
    refine aops_nil ?_
    change Awp _ _ _ _ _
    refine awp_ret ?_
    refine ⟨_, (.cons (.tmp (by exact .d _)) .nil), ?_⟩
    rw [hz]; rfl
  ·
    (try simp only [decide_eq_true_eq, decide_eq_false_iff_not, Bool.and_eq_true, Bool.or_eq_true, Bool.and_eq_false_iff, Bool.or_eq_false_iff, Bool.not_eq_true', Bool.not_eq_false', Bool.not_true, Bool.not_false, bif_and, bif_or, Bool.not_not, ne_eq, Decidable.not_not, not_true_eq_false, not_false_eq_true, Int.not_le, Int.not_lt] at hc2)
    have hz : modI n b = n.tmod b := by unfold modI; rw [if_neg (by omega)]
    refine awp_skip ?_
    change Awp _ _ _ _ _
    refine awp_seq ?_
    refine awp_region 2 mixed (by kernel_rfl) ?_
    refine rg_q (q_move (x := .d (.v _)) rfl) ?_
    refine rg_q (q_assign (x := .d (.v _)) rfl) ?_
    refine rg_nil ?_
    refine aops_nil ?_
    change Awp _ _ _ _ _
    refine awp_ret ?_
    refine ⟨_, (.cons (.tmp (by exact .d _)) .nil), ?_⟩
    rw [hz]; rfl
set_option maxRecDepth 100000 in
theorem lawMeets_p (a : Lar) (p : Int × Int) (q : Int) : PCG Tryz.prog GW 7 [.agg (larC a), .agg (shC p), .v (.int .i64 (q))] (.v (.bool (true))) := by
  refine pcg_of_awpN gw_keep Tryz.func7 rfl Tryz.ntmps7 (rs := [.tmp 6]) Tryz.results7 (by simp) fun w0 hmine hrnd hpn hG => ?_
  refine awp_seq ?_
  refine awp_region 3 mixed (by kernel_rfl) ?_
  refine rg_q (q_box rfl (by exact .inr ⟨_, rfl⟩)) ?_
  refine rg_q (q_box rfl (by exact .inr ⟨_, rfl⟩)) ?_
  refine rg_q (q_assign (x := .d (.v _)) rfl) ?_
  refine rg_nil ?_
  refine aops_nil ?_
  change Awp _ _ _ _ _
  refine awp_seq ?_
  refine awp_seq ?_
  refine awp_region 2 mixed (by kernel_rfl) ?_
  refine rg_q (q_callG en17 .nil rfl hG (awake_p)) ?_
  refine rg_q (q_not rfl) ?_
  refine rg_nil ?_
  refine aops_nil ?_
  change Awp _ _ _ _ _
  refine awp_cond rfl (fun hc1 => ?_) (fun hc1 => ?_)
  ·
    simp at hc1
  ·
    (try simp only [decide_eq_true_eq, decide_eq_false_iff_not, Bool.and_eq_true, Bool.or_eq_true, Bool.and_eq_false_iff, Bool.or_eq_false_iff, Bool.not_eq_true', Bool.not_eq_false', Bool.not_true, Bool.not_false, bif_and, bif_or, Bool.not_not, ne_eq, Decidable.not_not, not_true_eq_false, not_false_eq_true, Int.not_le, Int.not_lt] at hc1)
    refine awp_skip ?_
    change Awp _ _ _ _ _
    refine awp_seq ?_
    refine awp_seq ?_
    refine awp_region 5 mixed (by kernel_rfl) ?_
    refine rg_q (q_fieldAddr fld26_0 rfl) ?_
    refine rg_q (q_load sz22 rfl rfl) ?_
    refine rg_q (q_len isl22 rfl (by exact len_map _ _)) ?_
    refine rg_q (q_call en18 (.cons rfl .nil) rfl (few_p _)) ?_
    refine rg_q (q_not rfl) ?_
    refine rg_nil ?_
    refine aops_nil ?_
    change Awp _ _ _ _ _
    refine awp_len (t := 23) rfl (fun hl23 => ?_)
    (try simp only [List.length_map] at hl23)
    refine awp_cond rfl (fun hc3 => ?_) (fun hc3 => ?_)
    ·
      (try simp only [decide_eq_true_eq, decide_eq_false_iff_not, Bool.and_eq_true, Bool.or_eq_true, Bool.and_eq_false_iff, Bool.or_eq_false_iff, Bool.not_eq_true', Bool.not_eq_false', Bool.not_true, Bool.not_false, bif_and, bif_or, Bool.not_not, ne_eq, Decidable.not_not, not_true_eq_false, not_false_eq_true, Int.not_le, Int.not_lt] at hc3)
      refine awp_seq ?_
      refine awp_region 1 mixed (by kernel_rfl) ?_
      refine rg_q (q_assign (x := .d (.v _)) rfl) ?_
      refine rg_nil ?_
      refine aops_nil ?_
      change Awp _ _ _ _ _
      refine awp_ret ?_
      refine ⟨_, (.cons (.tmp (by exact .d _)) .nil), ?_⟩
      rfl
    ·
      (try simp only [decide_eq_true_eq, decide_eq_false_iff_not, Bool.and_eq_true, Bool.or_eq_true, Bool.and_eq_false_iff, Bool.or_eq_false_iff, Bool.not_eq_true', Bool.not_eq_false', Bool.not_true, Bool.not_false, bif_and, bif_or, Bool.not_not, ne_eq, Decidable.not_not, not_true_eq_false, not_false_eq_true, Int.not_le, Int.not_lt] at hc3)
      have hl1 : a.el.length ≤ 18 := by omega
      refine awp_skip ?_
      change Awp _ _ _ _ _
      refine awp_seq ?_
      refine awp_regionM 10 [none, none, none, none, none, none, none, some 7, some 7, none] mixed (by kernel_rfl) ?_
      refine rgm_q rfl (q_loadA (ds := [_, _, _, _, _, _]) sz26 rfl rfl rfl) ?_
      refine rgm_q rfl (q_call en20 (.cons rfl .nil) rfl (copyLar_p _ (by omega))) ?_
      refine rgm_q rfl (q_loadA (ds := [_, _]) sz28 rfl rfl rfl) ?_
      refine rgm_q rfl (q_call en19 (.cons rfl (.cons rfl .nil)) rfl (focusLawR_p a p)) ?_
      refine rgm_q rfl (q_move (x := .d (.tup _)) rfl) ?_
      refine rgm_q rfl (q_extract rfl rfl) ?_
      refine rgm_q rfl (q_extract rfl rfl) ?_
      refine rgm_m (k := 7) rfl rfl (by rfl) (m_alloc zr33 rfl rfl) ?_
      refine rgm_m (k := 7) rfl rfl (by rfl) (m_store sz33 rfl rfl (by exact .inr ⟨_, rfl⟩) rfl rfl (by decide) rfl) ?_
      refine rgm_q rfl (q_assign (x := .d (.v _)) rfl) ?_
      refine rgm_nil ?_
      refine aops_nil ?_
      change Awp _ _ _ _ _
      refine awp_seq ?_
      refine awp_seq ?_
      refine awp_region 2 mixed (by kernel_rfl) ?_
      refine rg_q (q_move (x := .d (.v _)) rfl) ?_
      refine rg_q (q_neq rfl rfl) ?_
      refine rg_nil ?_
      refine aops_nil ?_
      change Awp _ _ _ _ _
      refine awp_cond rfl (fun hc6 => ?_) (fun hc6 => ?_)
      ·
        (try simp only [decide_eq_true_eq, decide_eq_false_iff_not, Bool.and_eq_true, Bool.or_eq_true, Bool.and_eq_false_iff, Bool.or_eq_false_iff, Bool.not_eq_true', Bool.not_eq_false', Bool.not_true, Bool.not_false, bif_and, bif_or, Bool.not_not, ne_eq, Decidable.not_not, not_true_eq_false, not_false_eq_true, Int.not_le, Int.not_lt] at hc6)
        have hbad := foc_bad hc6
        refine awp_seq ?_
        refine awp_region 5 mixed (by kernel_rfl) ?_
        refine rg_q (q_fieldAddr_ref fld33_1 rfl) ?_
        refine rg_q (q_load_ref sz31 rfl rfl rfl) ?_
        refine rg_q (q_len isl31 rfl (by exact len_map _ _)) ?_
        refine rg_q (q_eql rfl rfl) ?_
        refine rg_q (q_assign (x := .d (.v _)) rfl) ?_
        refine rg_nil ?_
        refine aops_nil ?_
        change Awp _ _ _ _ _
        refine awp_len (t := 37) rfl (fun hl37 => ?_)
        (try simp only [List.length_map] at hl37)
        refine awp_ret ?_
        refine ⟨_, (.cons (.tmp (by exact .d _)) .nil), ?_⟩
        rw [hbad]; rfl
      ·
        (try simp only [decide_eq_true_eq, decide_eq_false_iff_not, Bool.and_eq_true, Bool.or_eq_true, Bool.and_eq_false_iff, Bool.or_eq_false_iff, Bool.not_eq_true', Bool.not_eq_false', Bool.not_true, Bool.not_false, bif_and, bif_or, Bool.not_not, ne_eq, Decidable.not_not, not_true_eq_false, not_false_eq_true, Int.not_le, Int.not_lt] at hc6)
        obtain ⟨hck, hp, hfe, hT⟩ := foc_ok hc6
        have hckx : (fxL a p).ck = a.ck := rfl
        have hla := (lar_ok hck).1
        have hn1 := hla.n1
        have hn2 := hla.n2
        have hc1_ := hla.c1
        have hc2_ := hla.c2
        have hl3 := fx_len a p
        obtain ⟨m1, m2, m3, m4⟩ := met hla hck hp hT
        have hst := st_all (p := p) hla
        rw [hfe]
        refine awp_skip ?_
        change Awp _ _ _ _ _
        refine awp_seq ?_
        refine awp_regionM 12 [none, none, none, none, none, none, none, none, none, some 9, some 9, none] mixed (by kernel_rfl) ?_
        refine rgm_q rfl (q_loadA (ds := [_, _, _, _, _, _]) sz26 rfl rfl rfl) ?_
        refine rgm_q rfl (q_call en20 (.cons rfl .nil) rfl (copyLar_p _ (by omega))) ?_
        refine rgm_q rfl (q_load_refA (ds := [_, _]) sz33 rfl rfl rfl rfl) ?_
        refine rgm_q rfl (q_call en26 (.cons rfl .nil) rfl (copyLaw_p (fxL a p) (by omega))) ?_
        refine rgm_q rfl (q_loadA (ds := [_, _]) sz28 rfl rfl rfl) ?_
        refine rgm_q rfl (q_call en27 (.cons rfl (.cons rfl (.cons rfl .nil))) rfl (spread_p a (fxL a p) p)) ?_
        refine rgm_q rfl (q_move (x := .d (.tup _)) rfl) ?_
        refine rgm_q rfl (q_extract rfl rfl) ?_
        refine rgm_q rfl (q_extract rfl rfl) ?_
        refine rgm_m (k := 9) rfl rfl (by rfl) (m_alloc zr49 rfl rfl) ?_
        refine rgm_m (k := 9) rfl rfl (by rfl) (m_store sz49 rfl rfl (by exact .inr ⟨_, rfl⟩) rfl rfl (by decide) rfl) ?_
        refine rgm_q rfl (q_assign (x := .d (.v _)) rfl) ?_
        refine rgm_nil ?_
        refine aops_nil ?_
        change Awp _ _ _ _ _
        refine awp_seq ?_
        refine awp_seq ?_
        refine awp_region 18 mixed (by kernel_rfl) ?_
        refine rg_q (q_move (x := .d (.v _)) rfl) ?_
        refine rg_q (q_neq rfl rfl) ?_
        refine rg_q (q_move (x := .d (.v _)) rfl) ?_
        refine rg_g rfl rfl (fun hG => (q_fieldAddr_ref fld33_1 rfl)) ?_
        refine rg_g rfl rfl (fun hG => (q_load_ref sz31 rfl rfl rfl)) ?_
        refine rg_g rfl rfl (fun hG => (q_len isl31 rfl (by exact len_map _ _))) ?_
        refine rg_g rfl rfl (fun hG => (q_fieldAddr fld26_0 rfl)) ?_
        refine rg_g rfl rfl (fun hG => (q_load sz22 rfl rfl)) ?_
        refine rg_g rfl rfl (fun hG => (q_len isl22 rfl (by exact len_map _ _))) ?_
        refine rg_g rfl rfl (fun hG => (q_neq rfl rfl)) ?_
        refine rg_pick rfl rfl rfl rfl rfl rfl ?_
        refine rg_q (q_move (x := .d (.v _)) rfl) ?_
        refine rg_g rfl rfl (fun hG => (q_fieldAddr_ref fld33_0 rfl)) ?_
        refine rg_g rfl rfl (fun hG => (q_load_ref sz3 rfl rfl rfl)) ?_
        refine rg_g rfl rfl (fun hG => (q_fieldAddr fld26_2 rfl)) ?_
        refine rg_g rfl rfl (fun hG => (q_load sz3 rfl rfl)) ?_
        refine rg_g rfl rfl (fun hG => (q_neq rfl rfl)) ?_
        refine rg_pick rfl rfl rfl rfl rfl rfl ?_
        refine rg_nil ?_
        refine aops_nil ?_
        change Awp _ _ _ _ _
        refine awp_cond rfl (fun hc9 => ?_) (fun hc9 => ?_)
        ·
          simp [m1, hl3] at hc9
          omega
        ·
          (try simp only [decide_eq_true_eq, decide_eq_false_iff_not, Bool.and_eq_true, Bool.or_eq_true, Bool.and_eq_false_iff, Bool.or_eq_false_iff, Bool.not_eq_true', Bool.not_eq_false', Bool.not_true, Bool.not_false, bif_and, bif_or, Bool.not_not, ne_eq, Decidable.not_not, not_true_eq_false, not_false_eq_true, Int.not_le, Int.not_lt] at hc9)
          refine awp_skip ?_
          change Awp _ _ _ _ _
          refine awp_seq ?_
          refine awp_region 2 mixed (by kernel_rfl) ?_
          refine rg_q (q_assign (x := .d (.v _)) rfl) ?_
          refine rg_q (q_assign (x := .d (.v _)) rfl) ?_
          refine rg_nil ?_
          refine aops_nil ?_
          change Awp _ _ _ _ _
          refine awp_seq ?_
          refine awp_seq ?_
          refine awp_region 1 mixed (by kernel_rfl) ?_
          refine rg_q (q_assign (x := .d (.v _)) rfl) ?_
          refine rg_nil ?_
          refine aops_nil ?_
          change Awp _ _ _ _ _
          refine awp_block ?_
          refine awp_loopH [6, 11, 12, 13, 14, 15, 67, 68, 69, 70, 71, 72, 73, 74, 75, 76, 77, 78, 79, 80, 81, 82, 83, 84, 85, 86, 87, 88, 89, 90, 91, 92, 93, 94, 95, 96, 97, 98, 99, 100, 101, 102, 103, 104, 105, 106, 107, 108, 109, 110, 111] [] (α := Nat) (fun k => [(13, T.i (k : Int)), (11, T.i (fdF max 0 (wdL a p) k)), (12, T.bool (stI a p k))]) (fun k => []) (fun k => k ≤ a.el.length) (fun k => a.el.length - k) 0 (Nat.zero_le _) ?_ ?_
          · exact le_head (ms := []) (by repeat (exact Out.refl _)) ⟨(by rfl), (by rfl), (by rfl), trivial⟩ trivial rfl rfl rfl rfl
          ·
            intro k hk
            refine awp_seq ?_
            refine awp_seq ?_
            refine awp_region 5 mixed (by kernel_rfl) ?_
            refine rg_q (q_move (x := .d (.v _)) rfl) ?_
            refine rg_q (q_fieldAddr fld26_0 rfl) ?_
            refine rg_q (q_load sz22 rfl rfl) ?_
            refine rg_q (q_len isl22 rfl (by exact len_map _ _)) ?_
            refine rg_q (q_lss rfl rfl) ?_
            refine rg_nil ?_
            refine aops_nil ?_
            change Awp _ _ _ _ _
            refine awp_len (t := 69) rfl (fun hl69 => ?_)
            (try simp only [List.length_map] at hl69)
            refine awp_cond rfl (fun hc13 => ?_) (fun hc13 => ?_)
            ·
              (try simp only [decide_eq_true_eq, decide_eq_false_iff_not, Bool.and_eq_true, Bool.or_eq_true, Bool.and_eq_false_iff, Bool.or_eq_false_iff, Bool.not_eq_true', Bool.not_eq_false', Bool.not_true, Bool.not_false, bif_and, bif_or, Bool.not_not, ne_eq, Decidable.not_not, not_true_eq_false, not_false_eq_true, Int.not_le, Int.not_lt] at hc13)
              have hlt : k < a.el.length := by omega
              obtain ⟨s, hx⟩ : ∃ s, a.el[k]? = some s := ⟨_, List.getElem?_eq_getElem hlt⟩
              obtain ⟨e1, _, hw⟩ := lt_ok hla hp (List.mem_of_getElem? hx)
              have hle := lt_le hla.md hw
              obtain ⟨l1, l2, l3, l4⟩ := lt_in a.md s p
              have hft := fx_at (p := p) hlt
              have s1 := fdF_succ (f := max) (z := 0) (wd_at (p := p) hx)
              have s2 := st_succ a p k
              refine awp_skip ?_
              change Awp _ _ _ _ _
              refine awp_seq ?_
              refine awp_block ?_
              refine awp_seq ?_
              refine awp_regionM 15 [none, none, none, none, none, none, none, none, none, none, none, none, some 14, some 14, none] mixed (by kernel_rfl) ?_
              refine rgm_q rfl (q_fieldAddr fld26_1 rfl) ?_
              refine rgm_q rfl (q_loadA (ds := [_, _, _, _]) sz24 rfl rfl rfl) ?_
              refine rgm_q rfl (q_fieldAddr fld26_0 rfl) ?_
              refine rgm_q rfl (q_load sz22 rfl rfl) ?_
              refine rgm_q rfl (q_move (x := .d (.v _)) rfl) ?_
              refine rgm_q rfl (q_indexAddr sl22 rfl rfl (by omega) (map_at (by omega) hx)) ?_
              refine rgm_q rfl (q_loadA (ds := [_, _]) sz28 rfl rfl rfl) ?_
              refine rgm_q rfl (q_loadA (ds := [_, _]) sz28 rfl rfl rfl) ?_
              refine rgm_q rfl (q_call en41 (.cons rfl (.cons rfl (.cons rfl .nil))) rfl (leastTime_p _ _ _)) ?_
              refine rgm_q rfl (q_move (x := .d (.tup _)) rfl) ?_
              refine rgm_q rfl (q_extract rfl rfl) ?_
              refine rgm_q rfl (q_extract rfl rfl) ?_
              refine rgm_m (k := 14) rfl rfl (by rfl) (m_alloc zr49 rfl rfl) ?_
              refine rgm_m (k := 14) rfl rfl (by rfl) (m_store sz49 rfl rfl (by exact .inr ⟨_, rfl⟩) rfl rfl (by decide) rfl) ?_
              refine rgm_q rfl (q_assign (x := .d (.v _)) rfl) ?_
              refine rgm_nil ?_
              refine aops_nil ?_
              change Awp _ _ _ _ _
              refine awp_seq ?_
              refine awp_seq ?_
              refine awp_region 10 mixed (by kernel_rfl) ?_
              refine rg_q (q_move (x := .d (.v _)) rfl) ?_
              refine rg_q (q_neq rfl rfl) ?_
              refine rg_q (q_move (x := .d (.v _)) rfl) ?_
              refine rg_g rfl rfl (fun hG => (q_fieldAddr_ref fld49_0 rfl)) ?_
              refine rg_g rfl rfl (fun hG => (q_load_ref sz3 rfl rfl rfl)) ?_
              refine rg_g rfl rfl (fun hG => (q_fieldAddr_ref fld49_1 rfl)) ?_
              refine rg_g rfl rfl (fun hG => (q_load_ref sz3 rfl rfl rfl)) ?_
              refine rg_g rfl rfl (fun hG => (q_call en34 (.cons rfl (.cons rfl (.cons rfl .nil))) rfl (Within_p _ _ _))) ?_
              refine rg_g rfl rfl (fun hG => (q_not rfl)) ?_
              refine rg_pick rfl rfl rfl rfl rfl rfl ?_
              refine rg_nil ?_
              refine aops_nil ?_
              change Awp _ _ _ _ _
              refine awp_cond rfl (fun hc16 => ?_) (fun hc16 => ?_)
              ·
                simp [e1, inR] at hc16
                omega
              ·
                (try simp only [decide_eq_true_eq, decide_eq_false_iff_not, Bool.and_eq_true, Bool.or_eq_true, Bool.and_eq_false_iff, Bool.or_eq_false_iff, Bool.not_eq_true', Bool.not_eq_false', Bool.not_true, Bool.not_false, bif_and, bif_or, Bool.not_not, ne_eq, Decidable.not_not, not_true_eq_false, not_false_eq_true, Int.not_le, Int.not_lt] at hc16)
                refine awp_skip ?_
                change Awp _ _ _ _ _
                refine awp_region 18 mixed (by kernel_rfl) ?_
                refine rg_q (q_move (x := .d (.v _)) rfl) ?_
                refine rg_q (q_fieldAddr_ref fld49_1 rfl) ?_
                refine rg_q (q_load_ref sz3 rfl rfl rfl) ?_
                refine rg_q (q_fieldAddr_ref fld49_0 rfl) ?_
                refine rg_q (q_load_ref sz3 rfl rfl rfl) ?_
                refine rg_q (q_sub rfl rfl (In64.mk (by omega) (by omega))) ?_
                refine rg_q (q_max rfl rfl) ?_
                refine rg_q (q_move (x := .d (.v _)) rfl) ?_
                refine rg_q (q_move (x := .d (.v _)) rfl) ?_
                refine rg_g rfl rfl (fun hG => (q_fieldAddr_ref fld33_1 rfl)) ?_
                refine rg_g rfl rfl (fun hG => (q_load_ref sz31 rfl rfl rfl)) ?_
                refine rg_g rfl rfl (fun hG => (q_move (x := .d (.v _)) rfl)) ?_
                refine rg_g rfl rfl (fun hG => (q_indexAddr sl31 rfl rfl (by (have hg0 := T.bool_inj (a := _) hG.1; (try simp only [decide_eq_true_eq, decide_eq_false_iff_not, Bool.and_eq_true, Bool.or_eq_true, Bool.and_eq_false_iff, Bool.or_eq_false_iff, Bool.not_eq_true', Bool.not_eq_false', Bool.not_true, Bool.not_false, bif_and, bif_or, Bool.not_not, ne_eq, Decidable.not_not, not_true_eq_false, not_false_eq_true, Int.not_le, Int.not_lt] at hg0); omega)) (map_at (by (have hg0 := T.bool_inj (a := _) hG.1; (try simp only [decide_eq_true_eq, decide_eq_false_iff_not, Bool.and_eq_true, Bool.or_eq_true, Bool.and_eq_false_iff, Bool.or_eq_false_iff, Bool.not_eq_true', Bool.not_eq_false', Bool.not_true, Bool.not_false, bif_and, bif_or, Bool.not_not, ne_eq, Decidable.not_not, not_true_eq_false, not_false_eq_true, Int.not_le, Int.not_lt] at hg0); omega)) hft))) ?_
                refine rg_g rfl rfl (fun hG => (q_load sz3 rfl rfl)) ?_
                refine rg_g rfl rfl (fun hG => (q_eql rfl rfl)) ?_
                refine rg_pick rfl rfl rfl rfl rfl rfl ?_
                refine rg_q (q_assign (x := .d (.v _)) rfl) ?_
                refine rg_q (q_assign (x := .d (.v _)) rfl) ?_
                refine rg_nil ?_
                refine aops_nil ?_
                change Awp _ _ _ _ _
                refine awp_region 3 mixed (by kernel_rfl) ?_
                refine rg_q (q_move (x := .d (.v _)) rfl) ?_
                refine rg_q (q_add rfl rfl (In64.mk (by omega) (by omega))) ?_
                refine rg_q (q_assign (x := .d (.v _)) rfl) ?_
                refine rg_nil ?_
                refine aops_nil ?_
                refine ⟨k + 1, by omega, by omega, ?_⟩
                exact le_head (ms := []) (by repeat (first | exact Out.head rfl rfl | (refine Out.put ?_ rfl) | (refine Out.site ?_ rfl))) ⟨(by rfl), (by ((show T.i _ = T.i _; rw [s1]))), (by ((show T.bool _ = T.bool _; rw [s2]; rfl))), trivial⟩ trivial rfl rfl rfl rfl
            ·
              (try simp only [decide_eq_true_eq, decide_eq_false_iff_not, Bool.and_eq_true, Bool.or_eq_true, Bool.and_eq_false_iff, Bool.or_eq_false_iff, Bool.not_eq_true', Bool.not_eq_false', Bool.not_true, Bool.not_false, bif_and, bif_or, Bool.not_not, ne_eq, Decidable.not_not, not_true_eq_false, not_false_eq_true, Int.not_le, Int.not_lt] at hc13)
              have hkn : k = a.el.length := by omega
              subst hkn
              have hwi : fdF max 0 (wdL a p) a.el.length = wid a p := rfl
              have hwb : wid a p ≤ 40000000000 ∧ 0 ≤ wid a p := ⟨by
                have := fdF_in (l := wdL a p) (b := 40000000000) (k := a.el.length) (by omega) (fun v hv => by
                  obtain ⟨s, hs, rfl⟩ := List.mem_map.1 hv
                  obtain ⟨_, _, hw⟩ := lt_ok hla hp hs
                  have := lt_le hla.md hw
                  obtain ⟨l1, l2, l3, l4⟩ := lt_in a.md s p
                  omega)
                exact this.2, foldmax_ge (.inr (Int.le_refl 0))⟩
              rw [hwi]
              refine awp_exit ?_
              change Awp _ _ _ _ _
              refine awp_seq ?_
              refine awp_seq ?_
              refine awp_region 24 mixed (by kernel_rfl) ?_
              refine rg_q (q_move (x := .d (.v _)) rfl) ?_
              refine rg_q (q_not rfl) ?_
              refine rg_q (q_move (x := .d (.v _)) rfl) ?_
              refine rg_g rfl rfl (fun hG => (q_fieldAddr_ref fld49_0 rfl)) ?_
              refine rg_g rfl rfl (fun hG => (q_load_ref sz3 rfl rfl rfl)) ?_
              refine rg_g rfl rfl (fun hG => (q_lss rfl rfl)) ?_
              refine rg_pick rfl rfl rfl rfl rfl rfl ?_
              refine rg_q (q_move (x := .d (.v _)) rfl) ?_
              refine rg_g rfl rfl (fun hG => (q_fieldAddr_ref fld49_0 rfl)) ?_
              refine rg_g rfl rfl (fun hG => (q_load_ref sz3 rfl rfl rfl)) ?_
              refine rg_g rfl rfl (fun hG => (q_fieldAddr_ref fld49_1 rfl)) ?_
              refine rg_g rfl rfl (fun hG => (q_load_ref sz3 rfl rfl rfl)) ?_
              refine rg_g rfl rfl (fun hG => (q_gtr rfl rfl)) ?_
              refine rg_pick rfl rfl rfl rfl rfl rfl ?_
              refine rg_q (q_move (x := .d (.v _)) rfl) ?_
              refine rg_g rfl rfl (fun hG => (q_fieldAddr_ref fld49_1 rfl)) ?_
              refine rg_g rfl rfl (fun hG => (q_load_ref sz3 rfl rfl rfl)) ?_
              refine rg_g rfl rfl (fun hG => (q_fieldAddr fld26_2 rfl)) ?_
              refine rg_g rfl rfl (fun hG => (q_load sz3 rfl rfl)) ?_
              refine rg_g rfl rfl (fun hG => (q_move (x := .d (.v _)) rfl)) ?_
              refine rg_g rfl rfl (fun hG => (q_mul rfl rfl (In64.mk (by (have hg0 := T.bool_inj (a := _) hG.1; (try simp only [decide_eq_true_eq, decide_eq_false_iff_not, Bool.and_eq_true, Bool.or_eq_true, Bool.and_eq_false_iff, Bool.or_eq_false_iff, Bool.not_eq_true', Bool.not_eq_false', Bool.not_true, Bool.not_false, bif_and, bif_or, Bool.not_not, ne_eq, Decidable.not_not, not_true_eq_false, not_false_eq_true, Int.not_le, Int.not_lt] at hg0); omega)) (by (have hg0 := T.bool_inj (a := _) hG.1; (try simp only [decide_eq_true_eq, decide_eq_false_iff_not, Bool.and_eq_true, Bool.or_eq_true, Bool.and_eq_false_iff, Bool.or_eq_false_iff, Bool.not_eq_true', Bool.not_eq_false', Bool.not_true, Bool.not_false, bif_and, bif_or, Bool.not_not, ne_eq, Decidable.not_not, not_true_eq_false, not_false_eq_true, Int.not_le, Int.not_lt] at hg0); omega))))) ?_
              refine rg_g rfl rfl (fun hG => (q_add rfl rfl (In64.mk (by (have hg0 := T.bool_inj (a := _) hG.1; (try simp only [decide_eq_true_eq, decide_eq_false_iff_not, Bool.and_eq_true, Bool.or_eq_true, Bool.and_eq_false_iff, Bool.or_eq_false_iff, Bool.not_eq_true', Bool.not_eq_false', Bool.not_true, Bool.not_false, bif_and, bif_or, Bool.not_not, ne_eq, Decidable.not_not, not_true_eq_false, not_false_eq_true, Int.not_le, Int.not_lt] at hg0); omega)) (by (have hg0 := T.bool_inj (a := _) hG.1; (try simp only [decide_eq_true_eq, decide_eq_false_iff_not, Bool.and_eq_true, Bool.or_eq_true, Bool.and_eq_false_iff, Bool.or_eq_false_iff, Bool.not_eq_true', Bool.not_eq_false', Bool.not_true, Bool.not_false, bif_and, bif_or, Bool.not_not, ne_eq, Decidable.not_not, not_true_eq_false, not_false_eq_true, Int.not_le, Int.not_lt] at hg0); omega))))) ?_
              refine rg_g rfl rfl (fun hG => (q_gtr rfl rfl)) ?_
              refine rg_pick rfl rfl rfl rfl rfl rfl ?_
              refine rg_nil ?_
              refine aops_nil ?_
              change Awp _ _ _ _ _
              refine awp_cond rfl (fun hc19 => ?_) (fun hc19 => ?_)
              ·
                simp [hst] at hc19
                omega
              ·
                (try simp only [decide_eq_true_eq, decide_eq_false_iff_not, Bool.and_eq_true, Bool.or_eq_true, Bool.and_eq_false_iff, Bool.or_eq_false_iff, Bool.not_eq_true', Bool.not_eq_false', Bool.not_true, Bool.not_false, bif_and, bif_or, Bool.not_not, ne_eq, Decidable.not_not, not_true_eq_false, not_false_eq_true, Int.not_le, Int.not_lt] at hc19)
                refine awp_skip ?_
                change Awp _ _ _ _ _
                refine awp_seq ?_
                refine awp_seq ?_
                refine awp_region 4 mixed (by kernel_rfl) ?_
                refine rg_q (q_fieldAddr fld26_0 rfl) ?_
                refine rg_q (q_load sz22 rfl rfl) ?_
                refine rg_q (q_len isl22 rfl (by exact len_map _ _)) ?_
                refine rg_q (q_lss rfl rfl) ?_
                refine rg_nil ?_
                refine aops_nil ?_
                change Awp _ _ _ _ _
                refine awp_len (t := 137) rfl (fun hl137 => ?_)
                (try simp only [List.length_map] at hl137)
                refine awp_cond rfl (fun hc21 => ?_) (fun hc21 => ?_)
                ·
                  (try simp only [decide_eq_true_eq, decide_eq_false_iff_not, Bool.and_eq_true, Bool.or_eq_true, Bool.and_eq_false_iff, Bool.or_eq_false_iff, Bool.not_eq_true', Bool.not_eq_false', Bool.not_true, Bool.not_false, bif_and, bif_or, Bool.not_not, ne_eq, Decidable.not_not, not_true_eq_false, not_false_eq_true, Int.not_le, Int.not_lt] at hc21)
                  refine awp_seq ?_
                  refine awp_region 1 mixed (by kernel_rfl) ?_
                  refine rg_q (q_assign (x := .d (.v _)) rfl) ?_
                  refine rg_nil ?_
                  refine aops_nil ?_
                  change Awp _ _ _ _ _
                  refine awp_ret ?_
                  refine ⟨_, (.cons (.tmp (by exact .d _)) .nil), ?_⟩
                  rfl
                ·
                  (try simp only [decide_eq_true_eq, decide_eq_false_iff_not, Bool.and_eq_true, Bool.or_eq_true, Bool.and_eq_false_iff, Bool.or_eq_false_iff, Bool.not_eq_true', Bool.not_eq_false', Bool.not_true, Bool.not_false, bif_and, bif_or, Bool.not_not, ne_eq, Decidable.not_not, not_true_eq_false, not_false_eq_true, Int.not_le, Int.not_lt] at hc21)
                  obtain ⟨d0, d1⟩ := modI_in (n := q) (b := a.el.length) (by omega)
                  obtain ⟨w1, w2, w3⟩ := wth_one hla hck hp hT (by omega) d0 d1
                  refine awp_skip ?_
                  change Awp _ _ _ _ _
                  refine awp_seq ?_
                  refine awp_regionM 15 [none, none, none, none, none, none, none, none, none, none, none, none, some 16, some 16, none] mixed (by kernel_rfl) ?_
                  refine rgm_q rfl (q_load_refA (ds := [_, _]) sz33 rfl rfl rfl rfl) ?_
                  refine rgm_q rfl (q_call en26 (.cons rfl .nil) rfl (copyLaw_p (fxL a p) (by omega))) ?_
                  refine rgm_q rfl (q_move (x := .d (.v _)) rfl) ?_
                  refine rgm_q rfl (q_fieldAddr fld26_0 rfl) ?_
                  refine rgm_q rfl (q_load sz22 rfl rfl) ?_
                  refine rgm_q rfl (q_len isl22 rfl (by exact len_map _ _)) ?_
                  refine rgm_q rfl (q_call en43 (.cons rfl (.cons rfl .nil)) rfl (mod_p q a.el.length (by omega) (by omega))) ?_
                  refine rgm_q rfl (q_buildSlice sl31 zr3 rfl rfl (by decide) (.cons rfl (by exact .inl rfl) .nil) ⟨rfl, rfl, trivial⟩ rfl (by decide) rfl) ?_
                  refine rgm_q rfl (q_call en42 (.cons rfl (.cons rfl .nil)) rfl (without_p (fxL a p) [modI q a.el.length])) ?_
                  refine rgm_q rfl (q_move (x := .d (.tup _)) rfl) ?_
                  refine rgm_q rfl (q_extract rfl rfl) ?_
                  refine rgm_q rfl (q_extract rfl rfl) ?_
                  refine rgm_m (k := 16) rfl rfl (by rfl) (m_alloc zr33 rfl rfl) ?_
                  refine rgm_m (k := 16) rfl rfl (by rfl) (m_store sz33 rfl rfl (by exact .inr ⟨_, rfl⟩) rfl rfl (by decide) rfl) ?_
                  refine rgm_q rfl (q_assign (x := .d (.v _)) rfl) ?_
                  refine rgm_nil ?_
                  refine aops_nil ?_
                  change Awp _ _ _ _ _
                  refine awp_len (t := 145) rfl (fun hl145 => ?_)
                  (try simp only [List.length_map] at hl145)
                  refine awp_seq ?_
                  refine awp_regionM 11 [none, none, none, none, none, none, none, none, some 18, some 18, none] mixed (by kernel_rfl) ?_
                  refine rgm_q rfl (q_loadA (ds := [_, _, _, _, _, _]) sz26 rfl rfl rfl) ?_
                  refine rgm_q rfl (q_call en20 (.cons rfl .nil) rfl (copyLar_p _ (by omega))) ?_
                  refine rgm_q rfl (q_load_refA (ds := [_, _]) sz33 rfl rfl rfl rfl) ?_
                  refine rgm_q rfl (q_loadA (ds := [_, _]) sz28 rfl rfl rfl) ?_
                  refine rgm_q rfl (q_call en27 (.cons rfl (.cons rfl (.cons rfl .nil))) rfl (spread_p a (wthR (fxL a p) [modI q a.el.length]).1 p)) ?_
                  refine rgm_q rfl (q_move (x := .d (.tup _)) rfl) ?_
                  refine rgm_q rfl (q_extract rfl rfl) ?_
                  refine rgm_q rfl (q_extract rfl rfl) ?_
                  refine rgm_m (k := 18) rfl rfl (by rfl) (m_alloc zr49 rfl rfl) ?_
                  refine rgm_m (k := 18) rfl rfl (by rfl) (m_store sz49 rfl rfl (by exact .inr ⟨_, rfl⟩) rfl rfl (by decide) rfl) ?_
                  refine rgm_q rfl (q_assign (x := .d (.v _)) rfl) ?_
                  refine rgm_nil ?_
                  refine aops_nil ?_
                  change Awp _ _ _ _ _
                  refine awp_seq ?_
                  refine awp_region 14 mixed (by kernel_rfl) ?_
                  refine rg_q (q_move (x := .d (.v _)) rfl) ?_
                  refine rg_q (q_eql rfl rfl) ?_
                  refine rg_q (q_move (x := .d (.v _)) rfl) ?_
                  refine rg_g rfl rfl (fun hG => (q_move (x := .d (.v _)) rfl)) ?_
                  refine rg_g rfl rfl (fun hG => (q_eql rfl rfl)) ?_
                  refine rg_pick rfl rfl rfl rfl rfl rfl ?_
                  refine rg_q (q_move (x := .d (.v _)) rfl) ?_
                  refine rg_g rfl rfl (fun hG => (q_fieldAddr_ref fld49_1 rfl)) ?_
                  refine rg_g rfl rfl (fun hG => (q_load_ref sz3 rfl rfl rfl)) ?_
                  refine rg_g rfl rfl (fun hG => (q_fieldAddr_ref fld49_1 rfl)) ?_
                  refine rg_g rfl rfl (fun hG => (q_load_ref sz3 rfl rfl rfl)) ?_
                  refine rg_g rfl rfl (fun hG => (q_leq rfl rfl)) ?_
                  refine rg_pick rfl rfl rfl rfl rfl rfl ?_
                  refine rg_q (q_assign (x := .d (.v _)) rfl) ?_
                  refine rg_nil ?_
                  refine aops_nil ?_
                  change Awp _ _ _ _ _
                  refine awp_ret ?_
                  refine ⟨_, (.cons (.tmp (by exact .d _)) .nil), ?_⟩
                  rw [w1]; simp [retD, w2, w3]
end Go.Proofs.YtgeieocphgnipaaGreatDoor.Am.M
