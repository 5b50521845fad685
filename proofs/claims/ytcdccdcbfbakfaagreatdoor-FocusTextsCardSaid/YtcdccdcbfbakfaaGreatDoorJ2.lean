/- Contracts over the abstract machine, joined. Conditions: none. -/
import Derived.Test.YtcdccdcbfbakfaaGreatDoorJ1
import Derived.WalkKit
import Derived.Lib.Mul64
import Derived.Laws.Bits64b
import Derived.Test.YtcdccdcbfbakfaaGreatDoorAmF
set_option linter.unusedVariables false
set_option linter.unusedSimpArgs false
-- mini
set_option maxRecDepth 100000
namespace Go.Proofs.YtcdccdcbfbakfaaGreatDoor.Am.M
open Go
theorem rwithin_p (n lo hi : Int) : PC Tryz.prog 146 [.v (.int .i64 (n)), .v (.int .i64 (lo)), .v (.int .i64 (hi))] (.v (.bool (inR lo n hi))) := by
 refine pc_of_awp Tryz.func146 rfl Tryz.ntmps146 (rs := [.tmp 6]) Tryz.results146 (by simp) fun w0 => ?_
 refine awp_seq ?_
 refine xa 1 ?_
 refine rg_q (q_a rfl) ?_
 refine rs (xa 9 ?_)
 refine rg_q (q_m rfl) (rg_q (q_m rfl) (rg_q (q_leq rfl rfl) (rg_q (q_m rfl) ?_)))
 refine rg_g rfl rfl (fun hG => (q_m rfl)) ?_
 refine rg_g rfl rfl (fun hG => (q_m rfl)) ?_
 refine rg_g rfl rfl (fun hG => (q_leq rfl rfl)) ?_
 refine rg_pick rfl rfl rfl rfl rfl rfl ?_
 refine rg_q (q_a rfl) ?_
 refine xc (awp_ret ?_)
 refine ⟨_, xk1, ?_⟩
 simp only [bif_and]; rfl
theorem rsmall_p (n m : Int) (h1 : 0 ≤ m) (h2 : m ≤ 1000000000000) : PC Tryz.prog 166 [.v (.int .i64 (n)), .v (.int .i64 (m))] (.v (.bool (inR (-m) n m))) := by
 refine pc_of_awp Tryz.func166 rfl Tryz.ntmps166 (rs := [.tmp 4]) Tryz.results166 (by simp) fun w0 => ?_
 refine awp_seq ?_
 refine xa 1 ?_
 refine rg_q (q_a rfl) ?_
 refine rs (xa 6 ?_)
 refine rg_q (q_m rfl) (rg_q (q_m rfl) ?_)
 refine rg_q (q_neg rfl xi) ?_
 refine rg_q (q_m rfl) ?_
 refine rg_q (q_call en146 (.cons rfl (.cons rfl (.cons rfl .nil))) rfl (rwithin_p _ _ _)) ?_
 refine rg_q (q_a rfl) ?_
 refine xc (awp_ret ?_)
 refine ⟨_, xk1, ?_⟩
 rfl

def mustI (b : Bool) (e : Int) : Int := if b = true then 0 else e
theorem must_p (b : Bool) (e : Int) : PC Tryz.prog 145 [.v (.bool (b)), .v (.int .i64 (e))] (.v (.int .i64 (mustI b e))) := by
 refine pc_of_awp Tryz.func145 rfl Tryz.ntmps145 (rs := [.tmp 4]) Tryz.results145 (by simp) fun w0 => ?_
 refine awp_seq ?_
 refine xa 1 ?_
 refine rg_q (q_a rfl) ?_
 refine rs (awp_seq ?_)
 refine xa 1 ?_
 refine rg_q (q_m rfl) ?_
 refine xc (awp_cond rfl (fun hc1 => ?_) (fun hc1 => ?_))
 ·
  (try simp only [nb, ne_eq] at hc1)
  have hz : mustI b e = 0 := by unfold mustI; rw [if_pos hc1]
  refine awp_seq ?_
  refine xa 1 ?_
  refine rg_q (q_a rfl) ?_
  refine xc (awp_ret ?_)
  refine ⟨_, xk1, ?_⟩
  rw [hz]; rfl
 ·
  (try simp only [nb, ne_eq] at hc1)
  have hz : mustI b e = e := by unfold mustI; rw [if_neg (by simpa using hc1)]
  refine awp_skip ?_
  change Awp _ _ _ _ _
  refine awp_seq ?_
  refine xa 2 ?_
  refine rg_q (q_m rfl) (rg_q (q_a rfl) ?_)
  refine xc (awp_ret ?_)
  refine ⟨_, xk1, ?_⟩
  rw [hz]; rfl
theorem rfirst_p (l : List Int) : PC Tryz.prog 117 [.sl 1 (l.map iC)] (.v (.int .i64 (firstE l))) := by
 refine pc_of_awp Tryz.func117 rfl Tryz.ntmps117 (rs := [.tmp 2]) Tryz.results117 (by simp) fun w0 => ?_
 refine awp_seq ?_
 refine xa 1 ?_
 refine rg_q (q_a rfl) ?_
 refine rs (awp_seq ?_)
 refine xa 3 ?_
 refine rg_q (q_move (x := .d (.sl _ _)) rfl) ?_
 refine rg_q (q_len isl199 rfl (by exact len_map _ _)) ?_
 refine rg_q (q_m rfl) ?_
 refine xc (awp_len (t := 5) rfl (fun hl5 => ?_))
 (try simp only [List.length_map] at hl5)
 refine awp_block ?_
 refine awp_loopH [2, 4, 7, 8, 9, 10, 11, 12, 13, 14] [] (α := Nat) (fun k => [(7, T.i (k : Int))]) (fun k => []) (fun k => k ≤ l.length ∧ firstE l = firstE (l.drop k)) (fun k => l.length - k) 0 ⟨Nat.zero_le _, rfl⟩ ?_ ?_
 · exact xh (ms := []) (by repeat (exact Out.refl _)) ⟨(by rfl), trivial⟩ trivial
 ·
  intro k ⟨hk, hf⟩
  refine awp_seq ?_
  refine xa 1 ?_
  refine rg_q (q_lss rfl rfl) ?_
  refine rs (awp_cond rfl (fun hc2 => ?_) (fun hc2 => ?_))
  ·
   (try simp only [nb, ne_eq] at hc2)
   have hlt : k < l.length := by omega
   have hx := List.getElem?_eq_getElem hlt
   have hd : firstE (l.drop k) = if l[k] = 0 then firstE (l.drop (k + 1)) else l[k] := by rw [List.drop_eq_getElem_cons hlt]; rfl
   generalize l[k] = x at *
   refine awp_skip ?_
   change Awp _ _ _ _ _
   refine awp_seq ?_
   refine awp_block ?_
   refine awp_seq ?_
   refine xa 3 ?_
   refine rg_q (q_indexAddr sl199 rfl rfl (by omega) (map_at (by omega) hx)) ?_
   refine rg_q (q_load sz29 rfl rfl) (rg_q (q_a rfl) ?_)
   refine rs (xa 2 ?_)
   refine rg_q (q_m rfl) (rg_q (q_neq rfl rfl) ?_)
   refine xc (awp_cond rfl (fun hc4 => ?_) (fun hc4 => ?_))
   ·
    (try simp only [nb, ne_eq] at hc4)
    refine awp_seq ?_
    refine xa 2 ?_
    refine rg_q (q_m rfl) (rg_q (q_a rfl) ?_)
    refine xc (awp_ret ?_)
    refine ⟨_, xk1, ?_⟩
    rw [hf, hd, if_neg hc4]; rfl
   ·
    (try simp only [nb, ne_eq] at hc4)
    refine awp_skip ?_
    change Awp _ _ _ _ _
    refine xa 2 ?_
    refine rg_q (q_add rfl rfl xi) ?_
    refine rg_q (q_m rfl) ?_
    refine rn ?_
    refine ⟨k + 1, ⟨by omega, by rw [hf, hd, if_pos hc4]⟩, by omega, ?_⟩
    exact xh (ms := []) (by repeat (first | exact Out.head rfl rfl | (refine Out.put ?_ rfl))) ⟨(by rfl), trivial⟩ trivial
  ·
   (try simp only [nb, ne_eq] at hc2)
   refine awp_exit ?_
   change Awp _ _ _ _ _
   refine awp_seq ?_
   refine xa 1 ?_
   refine rg_q (q_a rfl) ?_
   refine xc (awp_ret ?_)
   refine ⟨_, xk1, ?_⟩
   rw [hf, List.drop_of_length_le (by omega)]; rfl
theorem down_p (n b : Int) (h : Sm n) (hb : 0 < b) : PC Tryz.prog 165 [.v (.int .i64 (n)), .v (.int .i64 (b))] (.v (.int .i64 (n / b))) := by
 have hq := tdiv_sm h hb
 obtain ⟨h1, h2⟩ := h
 obtain ⟨h3, h4⟩ := hq
 have hl := floor_law (n := n) hb
 refine pc_of_awp Tryz.func165 rfl Tryz.ntmps165 (rs := [.tmp 4]) Tryz.results165 (by simp) fun w0 => ?_
 refine awp_seq ?_
 refine xa 1 ?_
 refine rg_q (q_a rfl) ?_
 refine rs (xa 4 ?_)
 refine rg_q (q_m rfl) (rg_q (q_m rfl) ?_)
 refine rg_q (q_quo rfl rfl (by omega) xi) ?_
 refine rg_q (q_a rfl) ?_
 refine rs (awp_seq ?_)
 refine xa 4 ?_
 refine rg_q (q_m rfl) (rg_q (q_m rfl) ?_)
 refine rg_q (q_rem rfl rfl (by omega)) ?_
 refine rg_q (q_lss rfl rfl) ?_
 refine xc (awp_cond rfl (fun hc2 => ?_) (fun hc2 => ?_))
 ·
  (try simp only [nb, ne_eq] at hc2)
  rw [if_pos hc2] at hl
  refine xa 3 ?_
  refine rg_q (q_m rfl) ?_
  refine rg_q (q_sub rfl rfl xi) ?_
  refine rg_q (q_a rfl) ?_
  refine rs (xa 2 ?_)
  refine rg_q (q_m rfl) (rg_q (q_a rfl) ?_)
  refine xc (awp_ret ?_)
  refine ⟨_, xk1, ?_⟩
  rw [← hl]; rfl
 ·
  (try simp only [nb, ne_eq] at hc2)
  rw [if_neg (by omega)] at hl
  refine awp_skip ?_
  change Awp _ _ _ _ _
  refine awp_seq ?_
  refine xa 2 ?_
  refine rg_q (q_m rfl) (rg_q (q_a rfl) ?_)
  refine xc (awp_ret ?_)
  refine ⟨_, xk1, ?_⟩
  rw [← hl]; rfl
theorem up_p (n b : Int) (h : Sm n) (hb : 0 < b) : PC Tryz.prog 153 [.v (.int .i64 (n)), .v (.int .i64 (b))] (.v (.int .i64 (ceilI n b))) := by
 obtain ⟨h1, h2⟩ := h
 have hq := ediv_sm (a := -n) ⟨by omega, by omega⟩ hb
 obtain ⟨h3, h4⟩ := hq
 refine pc_of_awp Tryz.func153 rfl Tryz.ntmps153 (rs := [.tmp 4]) Tryz.results153 (by simp) fun w0 => ?_
 refine awp_seq ?_
 refine xa 1 ?_
 refine rg_q (q_a rfl) ?_
 refine rs (xa 6 ?_)
 refine rg_q (q_m rfl) ?_
 refine rg_q (q_neg rfl xi) ?_
 refine rg_q (q_m rfl) ?_
 refine rg_q (q_call en165 (.cons rfl (.cons rfl .nil)) rfl (down_p _ _ ⟨by omega, by omega⟩ (by omega))) ?_
 refine rg_q (q_neg rfl xi) ?_
 refine rg_q (q_a rfl) ?_
 refine xc (awp_ret ?_)
 refine ⟨_, xk1, ?_⟩
 rfl

theorem u64_in {n : Int} (h0 : 0 ≤ n) (h1 : n ≤ 9223372036854775807) : IntKind.u64.wrap n = n := by rw [IntKind.wrap_u64]; omega
theorem i64_at {n : Int} (h0 : 0 ≤ n) (h1 : n ≤ 9223372036854775807) : IntKind.i64.wrap n = n := IntWalk.i64_in _ ⟨by omega, by omega⟩
theorem half_law {n : Int} (h0 : 0 ≤ n) : (0 : Int) ≤ 1 ∧ n.fdiv (2 ^ (min (1 : Int).toNat IntKind.u64.bits)) = n / 2 := ⟨by omega, by rw [show min (1 : Int).toNat IntKind.u64.bits = 1 from by decide, Int.fdiv_eq_ediv_of_nonneg _ (by decide)]; rfl⟩
theorem search_p (f : Int → Bool) (g : FuncId) (cap : List D) (hen : enB Tryz.prog g = true) (n : Int) (hn : n ≤ 4611686018427387903) (hf : ∀ h, 0 ≤ h → h < n → PC Tryz.prog g (.v (.int .i64 h) :: cap) (.v (.bool (f h)))) : PC Tryz.prog 168 [.v (.int .i64 (n)), .fn (.func g) cap] (.v (.int .i64 (srch f n))) := by
 refine pc_of_awp Tryz.func168 rfl Tryz.ntmps168 (rs := [.tmp 4]) Tryz.results168 (by simp) fun w0 => ?_
 refine awp_seq ?_
 refine xa 1 ?_
 refine rg_q (q_a rfl) ?_
 refine rs (xa 3 ?_)
 refine rg_q (q_m rfl) (rg_q (q_a rfl) (rg_q (q_a rfl) ?_))
 refine rs (awp_block ?_)
 refine awp_loopH [5, 6, 7, 9, 10, 11, 12, 13, 14, 15, 16, 17, 18, 19, 20, 21, 22, 23, 24] [] (α := Nat × Int × Int) (fun x => [(5, T.i x.2.1), (6, T.i x.2.2)]) (fun x => []) (fun x => 0 ≤ x.2.1 ∧ x.2.2 ≤ n ∧ (x.2.2 - x.2.1 < 2 ^ x.1) ∧ srch f n = bsr f x.1 x.2.1 x.2.2) (fun x => x.1) (62, 0, n) ⟨by simp, by simp, by simp only; omega, rfl⟩ ?_ ?_
 · exact xh (ms := []) (by repeat (exact Out.refl _)) ⟨(by rfl), (by rfl), trivial⟩ trivial
 ·
  intro ⟨d, i, j⟩ ⟨hi, hj, hd, hh⟩
  simp only at hi hj hd hh
  refine awp_seq ?_
  refine awp_seq ?_
  refine xa 3 ?_
  refine rg_q (q_m rfl) (rg_q (q_m rfl) (rg_q (q_lss rfl rfl) ?_))
  refine xc (awp_cond rfl (fun hc2 => ?_) (fun hc2 => ?_))
  ·
   (try simp only [nb, ne_eq] at hc2)
   obtain ⟨e, rfl⟩ : ∃ e, d = e + 1 := by cases d with
    | zero => simp at hd; omega
    | succ e => exact ⟨e, rfl⟩
   have he : (2 : Int) ^ (e + 1) = 2 ^ e + 2 ^ e := by rw [Int.pow_succ]; omega
   have hst := bsr_step (f := f) (k := e) hc2
   have hfx := hf ((i + j) / 2) (by omega) (by omega)
   refine awp_skip ?_
   change Awp _ _ _ _ _
   refine awp_block ?_
   refine awp_seq ?_
   refine xa 7 ?_
   refine rg_q (q_m rfl) (rg_q (q_m rfl) ?_)
   refine rg_q (q_add rfl rfl (In64.mk (by (simp only; omega)) (by (simp only; omega)))) ?_
   refine rg_q (q_convE int3 int180 rfl (u64_in (by (simp only; omega)) (by (simp only; omega)))) ?_
   refine rg_q (q_shrE rfl rfl (half_law (by (simp only; omega)))) ?_
   refine rg_q (q_convE int180 int3 rfl (i64_at (by (simp only; omega)) (by (simp only; omega)))) ?_
   refine rg_q (q_a rfl) ?_
   refine rs (xa 4 ?_)
   refine rg_q (q_move (x := .d (.fn _ _)) rfl) (rg_q (q_m rfl) ?_)
   refine rg_q (q_callC hen rfl (.cons rfl .nil) (hfx)) ?_
   refine rg_q (q_not rfl) ?_
   refine xc (awp_cond rfl (fun hc4 => ?_) (fun hc4 => ?_))
   ·
    (try simp only [nb, ne_eq] at hc4)
    have hq : f ((i + j) / 2) = false := by simpa using hc4
    refine xa 3 ?_
    refine rg_q (q_m rfl) ?_
    refine rg_q (q_add rfl rfl (In64.mk (by (simp only; omega)) (by (simp only; omega)))) ?_
    refine rg_q (q_a rfl) ?_
    refine rn ?_
    refine ⟨(e, (i + j) / 2 + 1, j), ⟨by simp only; omega, by simp only; omega, by simp only; omega, by rw [hh, hst, if_neg (by rw [hq]; simp)]⟩, by simp only; omega, ?_⟩
    exact xh (ms := []) (by repeat (first | exact Out.head rfl rfl | (refine Out.put ?_ rfl))) ⟨(by rfl), (by rfl), trivial⟩ trivial
   ·
    (try simp only [nb, ne_eq] at hc4)
    have hq : f ((i + j) / 2) = true := by simpa using hc4
    refine xa 2 ?_
    refine rg_q (q_m rfl) (rg_q (q_a rfl) ?_)
    refine rn ?_
    refine ⟨(e, i, (i + j) / 2), ⟨by simp only; omega, by simp only; omega, by simp only; omega, by rw [hh, hst, if_pos hq]⟩, by simp only; omega, ?_⟩
    exact xh (ms := []) (by repeat (first | exact Out.head rfl rfl | (refine Out.put ?_ rfl))) ⟨(by rfl), (by rfl), trivial⟩ trivial
  ·
   (try simp only [nb, ne_eq] at hc2)
   have hz := bsr_stop (f := f) (k := d) (i := i) (j := j) (by omega)
   refine awp_exit ?_
   change Awp _ _ _ _ _
   refine awp_seq ?_
   refine xa 2 ?_
   refine rg_q (q_m rfl) (rg_q (q_a rfl) ?_)
   refine xc (awp_ret ?_)
   refine ⟨_, xk1, ?_⟩
   rw [hh, hz]; rfl
theorem root1_p (r n : Int) (h0 : 0 ≤ r) (h1 : r < 2147483648) : PC Tryz.prog 182 [.v (.int .i64 (r)), .pt [.v (.int .i64 (n))] 0] (.v (.bool (decide (n < r * r)))) := by
 have m := mulb (a := r) (b := r) (A := 2147483648) (B := 2147483648) (by omega) (by omega) (by omega) (by omega)
 refine pc_of_awp Tryz.func182 rfl Tryz.ntmps182 (rs := [.tmp 3]) Tryz.results182 (by simp) fun w0 => ?_
 refine awp_seq ?_
 refine xa 1 ?_
 refine rg_q (q_a rfl) ?_
 refine rs (xa 6 ?_)
 refine rg_q (q_m rfl) (rg_q (q_m rfl) ?_)
 refine rg_q (q_mul rfl rfl xi) ?_
 refine rg_q (q_load sz3 rfl rfl) (rg_q (q_gtr rfl rfl) (rg_q (q_a rfl) ?_))
 refine xc (awp_ret ?_)
 refine ⟨_, xk1, ?_⟩
 rfl
theorem root_p (n : Int) (h0 : 0 ≤ n) (h1 : n < 4611686018427387904) : PC Tryz.prog 179 [.v (.int .i64 (n))] (.v (.int .i64 (rootI n))) := by
 have hs := root_srch h0 h1
 obtain ⟨r1, r2, r3, r4⟩ := root_spec h0 h1
 refine pc_of_awp Tryz.func179 rfl Tryz.ntmps179 (rs := [.tmp 2]) Tryz.results179 (by simp) fun w0 => ?_
 refine awp_seq ?_
 refine xa 2 ?_
 refine rg_q (q_box rfl (by exact .inl rfl)) ?_
 refine rg_q (q_a rfl) ?_
 refine rs (xa 4 ?_)
 refine rg_q (q_makeFunc (.cons rfl .nil)) ?_
 refine rg_q (q_call en168 (.cons rfl (.cons rfl .nil)) rfl (search_p (fun r => decide (n < r * r)) 182 [.pt [.v (.int .i64 n)] 0] en182 2147483648 (by omega) (fun h a b => root1_p h n a b))) ?_
 refine rg_q (q_sub rfl rfl xi) ?_
 refine rg_q (q_a rfl) ?_
 refine xc (awp_ret ?_)
 refine ⟨_, xk1, ?_⟩
 rw [← hs]; rfl

theorem len_bounds {x z : Int} (h1 : -200000 ≤ x) (h2 : x ≤ 200000) (h3 : -200000 ≤ z) (h4 : z ≤ 200000) : 0 ≤ x * x ∧ x * x ≤ 40000000000 ∧ 0 ≤ z * z ∧ z * z ≤ 40000000000 := by
  have sq : ∀ t : Int, -200000 ≤ t → t ≤ 200000 → 0 ≤ t * t ∧ t * t ≤ 40000000000 := fun t a b => by
    have m := mulb (a := t) (b := t) (A := 200000) (B := 200000) (by omega) (by omega) (by omega) (by omega)
    refine ⟨?_, by omega⟩
    rcases Int.le_total 0 t with q | q
    · exact Int.mul_nonneg q q
    · have := Int.mul_nonneg (show 0 ≤ -t by omega) (show 0 ≤ -t by omega)
      rwa [Int.neg_mul_neg] at this
  exact ⟨(sq x h1 h2).1, (sq x h1 h2).2, (sq z h3 h4).1, (sq z h3 h4).2⟩
structure LenIn (r : Rg) : Prop where
  a : 0 ≤ r.1
  b : r.1 ≤ 400000000
  c : 0 ≤ r.2
  d : r.2 ≤ 400000000
  e : r.1 ≤ r.2
theorem len_in {x z : Int} (h1 : -200000 ≤ x) (h2 : x ≤ 200000) (h3 : -200000 ≤ z) (h4 : z ≤ 200000) : LenIn (lenI x z) := by
  obtain ⟨b1, b2, b3, b4⟩ := len_bounds h1 h2 h3 h4
  obtain ⟨r1, r2, r3, r4⟩ := root_spec (n := 1000000 * (x * x + z * z)) (by omega) (by omega)
  have h5 : rootI (1000000 * (x * x + z * z)) < 300000000 := sq_lt (by omega) (by omega)
  unfold lenI
  refine ⟨r1, by simp only; omega, ?_, ?_, ?_⟩ <;> simp only <;> split <;> omega
theorem length_p (x z : Int) (h1 : -200000 ≤ x) (h2 : x ≤ 200000) (h3 : -200000 ≤ z) (h4 : z ≤ 200000) : PC Tryz.prog 172 [.v (.int .i64 (x)), .v (.int .i64 (z))] (.agg [.v (.int .i64 ((lenI x z).1)), .v (.int .i64 ((lenI x z).2))]) := by
 obtain ⟨b1, b2, b3, b4⟩ := len_bounds h1 h2 h3 h4
 obtain ⟨r1, r2, r3, r4⟩ := root_spec (n := 1000000 * (x * x + z * z)) (by omega) (by omega)
 have r5 := Int.mul_nonneg r1 r1
 refine pc_of_awp Tryz.func172 rfl Tryz.ntmps172 (rs := [.cell 4 58]) Tryz.results172 (by simp) fun w0 => ?_
 refine awp_seq ?_
 refine xa 0 ?_
 refine rg_nil ?_
 refine aops_alloc zr58 rfl rfl rfl ?_
 refine aops_nil (xq (xa 9 ?_))
 refine rg_q (q_m rfl) (rg_q (q_m rfl) ?_)
 refine rg_q (q_mul rfl rfl xi) ?_
 refine rg_q (q_m rfl) (rg_q (q_m rfl) ?_)
 refine rg_q (q_mul rfl rfl xi) ?_
 refine rg_q (q_add rfl rfl xi) ?_
 refine rg_q (q_mul rfl rfl xi) ?_
 refine rg_q (q_a rfl) ?_
 refine rs (xa 3 ?_)
 refine rg_q (q_m rfl) ?_
 refine rg_q (q_call en179 (.cons rfl .nil) rfl (root_p _ (by omega) (by omega))) ?_
 refine rg_q (q_build (cs := [_, _]) pl58 zr58 rfl (.cons rfl (by exact .inl rfl) .nil) ⟨⟨rfl, by decide⟩, trivial⟩ rfl) ?_
 refine rg_nil ?_
 refine aops_alloc zr58 rfl rfl rfl ?_
 refine aops_store sz58 rfl rfl (by exact .inr ⟨_, rfl⟩) rfl rfl (by decide) rfl ?_
 refine aops_nil (xq (xa 3 ?_))
 refine rg_q (q_fieldAddr_ref fld58_0 rfl) (rg_q (q_load_ref sz3 rfl rfl rfl) (rg_q (q_fieldAddr_ref fld58_1 rfl) ?_))
 refine rg_nil ?_
 refine aops_store sz3 rfl rfl (by exact .inl rfl) rfl rfl (by exact Nat.le_of_ble_eq_true rfl) rfl ?_
 refine aops_nil (xq (awp_seq ?_))
 refine xa 7 ?_
 refine rg_q (q_fieldAddr_ref fld58_0 rfl) (rg_q (q_load_ref sz3 rfl rfl rfl) (rg_q (q_fieldAddr_ref fld58_0 rfl) (rg_q (q_load_ref sz3 rfl rfl rfl) ?_)))
 refine rg_q (q_mul rfl rfl xi) ?_
 refine rg_q (q_m rfl) (rg_q (q_lss rfl rfl) ?_)
 refine xc (awp_cond rfl (fun hc4 => ?_) (fun hc4 => ?_))
 ·
  (try simp only [nb, ne_eq] at hc4)
  have hz : (lenI x z).2 = rootI (1000000 * (x * x + z * z)) + 1 := by unfold lenI; simp only; rw [if_pos hc4]
  refine xa 4 ?_
  refine rg_q (q_fieldAddr_ref fld58_1 rfl) (rg_q (q_load_ref sz3 rfl rfl rfl) ?_)
  refine rg_q (q_add rfl rfl xi) ?_
  refine rg_q (q_fieldAddr_ref fld58_1 rfl) ?_
  refine rg_nil ?_
  refine aops_store sz3 rfl rfl (by exact .inl rfl) rfl rfl (by exact Nat.le_of_ble_eq_true rfl) rfl ?_
  refine aops_nil (xq (xa 1 ?_))
  refine rg_q (q_load_refA (ds := [_, _]) sz58 rfl rfl rfl rfl) ?_
  refine rg_nil ?_
  refine aops_store sz58 rfl rfl (by exact .inr ⟨_, rfl⟩) rfl rfl (by decide) rfl ?_
  refine aops_nil ?_
  change Awp _ _ _ _ _
  refine awp_ret ?_
  refine ⟨_, (.cons (.cellA rfl rfl sz58 rfl) .nil), ?_⟩
  rw [hz]; rfl
 ·
  (try simp only [nb, ne_eq] at hc4)
  have hz : (lenI x z).2 = rootI (1000000 * (x * x + z * z)) := by unfold lenI; simp only; rw [if_neg (by omega)]
  refine awp_skip ?_
  change Awp _ _ _ _ _
  refine awp_seq ?_
  refine xa 1 ?_
  refine rg_q (q_load_refA (ds := [_, _]) sz58 rfl rfl rfl rfl) ?_
  refine rg_nil ?_
  refine aops_store sz58 rfl rfl (by exact .inr ⟨_, rfl⟩) rfl rfl (by decide) rfl ?_
  refine aops_nil ?_
  change Awp _ _ _ _ _
  refine awp_ret ?_
  refine ⟨_, (.cons (.cellA rfl rfl sz58 rfl) .nil), ?_⟩
  rw [hz]; rfl
theorem time_p (r : Rg) (v : Int) (hr : LenIn r) (h1 : 500 ≤ v) : PC Tryz.prog 171 [.agg [.v (.int .i64 ((r).1)), .v (.int .i64 ((r).2))], .v (.int .i64 (v))] (.agg [.v (.int .i64 ((timI r v).1)), .v (.int .i64 ((timI r v).2))]) := by
 obtain ⟨a1, a2, a3, a4, a5⟩ := hr
 refine pc_of_awp Tryz.func171 rfl Tryz.ntmps171 (rs := [.cell 4 58]) Tryz.results171 (by simp) fun w0 => ?_
 refine awp_seq ?_
 refine xa 1 ?_
 refine rg_q (q_box rfl (by exact .inr ⟨_, rfl⟩)) ?_
 refine rg_nil ?_
 refine aops_alloc zr58 rfl rfl rfl ?_
 refine aops_nil (xq (xa 11 ?_))
 refine rg_q (q_fieldAddr fld58_0 rfl) (rg_q (q_load sz3 rfl rfl) ?_)
 refine rg_q (q_mul rfl rfl xi) ?_
 refine rg_q (q_m rfl) ?_
 refine rg_q (q_call en165 (.cons rfl (.cons rfl .nil)) rfl (down_p _ _ ⟨by omega, by omega⟩ (by omega))) ?_
 refine rg_q (q_fieldAddr fld58_1 rfl) (rg_q (q_load sz3 rfl rfl) ?_)
 refine rg_q (q_mul rfl rfl xi) ?_
 refine rg_q (q_m rfl) ?_
 refine rg_q (q_call en153 (.cons rfl (.cons rfl .nil)) rfl (up_p _ _ ⟨by omega, by omega⟩ (by omega))) ?_
 refine rg_q (q_build (cs := [_, _]) pl58 zr58 rfl (.cons rfl (by exact .inl rfl) (.cons rfl (by exact .inl rfl) .nil)) ⟨⟨rfl, by decide⟩, ⟨rfl, by decide⟩, trivial⟩ rfl) ?_
 refine rg_nil ?_
 refine aops_store sz58 rfl rfl (by exact .inr ⟨_, rfl⟩) rfl rfl (by decide) rfl ?_
 refine aops_nil ?_
 change Awp _ _ _ _ _
 refine awp_ret ?_
 refine ⟨_, (.cons (.cellA rfl rfl sz58 rfl) .nil), ?_⟩
 rfl
theorem plus_p (a b : Rg) (h1 : -1000000000000000 ≤ a.1) (h2 : a.1 ≤ 1000000000000000) (h3 : -1000000000000000 ≤ b.1) (h4 : b.1 ≤ 1000000000000000) (h5 : -1000000000000000 ≤ a.2) (h6 : a.2 ≤ 1000000000000000) (h7 : -1000000000000000 ≤ b.2) (h8 : b.2 ≤ 1000000000000000) : PC Tryz.prog 120 [.agg [.v (.int .i64 ((a).1)), .v (.int .i64 ((a).2))], .agg [.v (.int .i64 ((b).1)), .v (.int .i64 ((b).2))]] (.agg [.v (.int .i64 (((a.1 + b.1, a.2 + b.2)).1)), .v (.int .i64 (((a.1 + b.1, a.2 + b.2)).2))]) := by
 refine pc_of_awp Tryz.func120 rfl Tryz.ntmps120 (rs := [.cell 4 58]) Tryz.results120 (by simp) fun w0 => ?_
 refine awp_seq ?_
 refine xa 2 ?_
 refine rg_q (q_box rfl (by exact .inr ⟨_, rfl⟩)) ?_
 refine rg_q (q_box rfl (by exact .inr ⟨_, rfl⟩)) ?_
 refine rg_nil ?_
 refine aops_alloc zr58 rfl rfl rfl ?_
 refine aops_nil (xq (xa 11 ?_))
 refine rg_q (q_fieldAddr fld58_0 rfl) (rg_q (q_load sz3 rfl rfl) (rg_q (q_fieldAddr fld58_0 rfl) (rg_q (q_load sz3 rfl rfl) ?_)))
 refine rg_q (q_add rfl rfl xi) ?_
 refine rg_q (q_fieldAddr fld58_1 rfl) (rg_q (q_load sz3 rfl rfl) (rg_q (q_fieldAddr fld58_1 rfl) (rg_q (q_load sz3 rfl rfl) ?_)))
 refine rg_q (q_add rfl rfl xi) ?_
 refine rg_q (q_build (cs := [_, _]) pl58 zr58 rfl (.cons rfl (by exact .inl rfl) (.cons rfl (by exact .inl rfl) .nil)) ⟨⟨rfl, by decide⟩, ⟨rfl, by decide⟩, trivial⟩ rfl) ?_
 refine rg_nil ?_
 refine aops_store sz58 rfl rfl (by exact .inr ⟨_, rfl⟩) rfl rfl (by decide) rfl ?_
 refine aops_nil ?_
 change Awp _ _ _ _ _
 refine awp_ret ?_
 refine ⟨_, (.cons (.cellA rfl rfl sz58 rfl) .nil), ?_⟩
 rfl

theorem maskN (a : Nat) (ha : a < 18446744073709551616) : bits .and .u64 (a : Int) 4294967295 = ((a % 4294967296 : Nat) : Int) := by
  have h := bits_and_u64_nat a 4294967295 ha (by omega)
  have e : a &&& 4294967295 = a % 4294967296 := Nat.and_two_pow_sub_one_eq_mod a 32
  rw [e] at h
  exact h
theorem divN (a : Nat) : (a : Int) / 4294967296 = ((a / 4294967296 : Nat) : Int) := by omega
theorem mulN (a b : Nat) : (a : Int) * (b : Int) = ((a * b : Nat) : Int) := (Int.natCast_mul a b).symm
theorem addN (a b : Nat) : (a : Int) + (b : Int) = ((a + b : Nat) : Int) := (Int.natCast_add a b).symm
theorem wrapN (a : Nat) (ha : a < 18446744073709551616) : IntKind.u64.wrap (a : Int) = (a : Int) := by rw [IntKind.wrap_u64]; omega
theorem wrapM (a : Nat) : IntKind.u64.wrap (a : Int) = ((a % 18446744073709551616 : Nat) : Int) := by rw [IntKind.wrap_u64]; omega
set_option maxHeartbeats 1000000 in
theorem mul64_c (x y : Nat) (hx : x < 18446744073709551616) (hy : y < 18446744073709551616) (w : World) :
    Calls Tryz.prog 181 #[.int .u64 x, .int .u64 y] w fun e w' => e = .returned (.tuple #[.int .u64 ((x * y / 18446744073709551616 : Nat) : Int), .int .u64 ((x * y % 18446744073709551616 : Nat) : Int)]) ∧ w' = w := by
  obtain ⟨bd, bt, bw, hhi⟩ := Lib.mul64_hi x y hx hy
  have ba := Lib.half_mul_le (a := x / 4294967296) (b := y / 4294967296) (by omega) (by omega)
  have bb := Lib.half_mul_le (a := x / 4294967296) (b := y % 4294967296) (by omega) (by omega)
  have bc := Lib.half_mul_le (a := x % 4294967296) (b := y / 4294967296) (by omega) (by omega)
  have ba' : x / 4294967296 * (y / 4294967296) < 18446744073709551616 := by omega
  have bb' : x / 4294967296 * (y % 4294967296) < 18446744073709551616 := by omega
  have bc' : x % 4294967296 * (y / 4294967296) < 18446744073709551616 := by omega
  have bh1 : x / 4294967296 * (y / 4294967296) + (x / 4294967296 * (y % 4294967296) + x % 4294967296 * (y % 4294967296) / 4294967296) / 4294967296 < 18446744073709551616 := by omega
  have bh : x / 4294967296 * (y / 4294967296) + (x / 4294967296 * (y % 4294967296) + x % 4294967296 * (y % 4294967296) / 4294967296) / 4294967296 + ((x / 4294967296 * (y % 4294967296) + x % 4294967296 * (y % 4294967296) / 4294967296) % 4294967296 + x % 4294967296 * (y / 4294967296)) / 4294967296 < 18446744073709551616 := by omega
  go_enter Tryz.func181, Tryz.ntmps181
  go_wp2
  simp only [maskN x hx, maskN y hy, divN, mulN, addN, wrapN _ bd, wrapN _ bb', wrapN _ bt, maskN _ bt, wrapN _ bc', wrapN _ bw, wrapN _ ba', wrapN _ bh1, wrapN _ bh, wrapM (x * y)]
  rw [hhi]
  go_ret2
  exact ⟨rfl, rfl⟩
theorem rep_tup {w : World} {ok : Nat → Prop} {cs : List D} {vs : List Value} (h : RepL w ok cs vs) : Rep w ok (.tup cs) (.tuple vs.toArray) :=
  .tup cs vs h.length fun j d v h1 h2 => h.get j d v h1 h2
def hi64 (p : Int) : Int := p / 18446744073709551616
def lo64 (p : Int) : Int := p % 18446744073709551616
theorem mul64_p (x y : Int) (h1 : 0 ≤ x) (h2 : x < 18446744073709551616) (h3 : 0 ≤ y) (h4 : y < 18446744073709551616) : PC Tryz.prog 181 [.v (.int .u64 x), .v (.int .u64 y)] (.tup [.v (.int .u64 (hi64 (x * y))), .v (.int .u64 (lo64 (x * y)))]) := by
  intro w ok vs hL
  match vs, hL with
  | [v, v'], ⟨k1, k2, _⟩ =>
    rw [Rep.v_eq k1, Rep.v_eq k2]
    obtain ⟨a, rfl⟩ := Int.eq_ofNat_of_zero_le h1
    obtain ⟨b, rfl⟩ := Int.eq_ofNat_of_zero_le h3
    refine (mul64_c a b (by omega) (by omega) w).mono ?_
    rintro e w' ⟨rfl, rfl⟩
    have e1 : hi64 ((a : Int) * (b : Int)) = ((a * b / 18446744073709551616 : Nat) : Int) := by unfold hi64; rw [← Int.natCast_mul]; omega
    have e2 : lo64 ((a : Int) * (b : Int)) = ((a * b % 18446744073709551616 : Nat) : Int) := by unfold lo64; rw [← Int.natCast_mul]; omega
    rw [e1, e2]
    exact ⟨_, rfl, Ext.refl _, rep_tup (vs := [.int .u64 _, .int .u64 _]) ⟨.v _ rfl, .v _ rfl, trivial⟩⟩
end Go.Proofs.YtcdccdcbfbakfaaGreatDoor.Am.M
-- mini
set_option maxRecDepth 100000
namespace Go.Proofs.YtcdccdcbfbakfaaGreatDoor.Am.M
open Go
theorem times_p (a b : Int) (h1 : 0 ≤ a) (h2 : a ≤ 9223372036854775807) (h3 : 0 ≤ b) (h4 : b ≤ 9223372036854775807) : PC Tryz.prog 177 [.v (.int .i64 (a)), .v (.int .i64 (b))] (.agg [.v (.int .u64 (hi64 (a * b))), .v (.int .u64 (lo64 (a * b)))]) := by
 refine pc_of_awp Tryz.func177 rfl Tryz.ntmps177 (rs := [.cell 4 269]) Tryz.results177 (by simp) fun w0 => ?_
 refine awp_seq ?_
 refine xa 0 ?_
 refine rg_nil ?_
 refine aops_alloc zr269 rfl rfl rfl ?_
 refine aops_nil (xq (xa 10 ?_))
 refine rg_q (q_m rfl) ?_
 refine rg_q (q_convE int3 int117 rfl (u64_in (by omega) (by omega))) ?_
 refine rg_q (q_m rfl) ?_
 refine rg_q (q_convE int3 int117 rfl (u64_in (by omega) (by omega))) ?_
 refine rg_q (q_call en181 (.cons rfl (.cons rfl .nil)) rfl (mul64_p _ _ (by omega) (by omega) (by omega) (by omega))) ?_
 refine rg_q (q_move (x := .d (.tup _)) rfl) (rg_q (q_extract rfl rfl) (rg_q (q_extract rfl rfl) (rg_q (q_a rfl) (rg_q (q_a rfl) ?_))))
 refine rs (xa 3 ?_)
 refine rg_q (q_m rfl) (rg_q (q_m rfl) ?_)
 refine rg_q (q_build (cs := [_, _]) pl269 zr269 rfl (.cons rfl (by exact .inl rfl) (.cons rfl (by exact .inl rfl) .nil)) ⟨⟨rfl, by decide⟩, ⟨rfl, by decide⟩, trivial⟩ rfl) ?_
 refine rg_nil ?_
 refine aops_store sz269 rfl rfl (by exact .inr ⟨_, rfl⟩) rfl rfl (by decide) rfl ?_
 refine aops_nil ?_
 change Awp _ _ _ _ _
 refine awp_ret ?_
 refine ⟨_, (.cons (.cellA rfl rfl sz269 rfl) .nil), ?_⟩
 rfl

theorem hl64 (a : Int) : a = hi64 a * 18446744073709551616 + lo64 a ∧ 0 ≤ lo64 a ∧ lo64 a < 18446744073709551616 := by unfold hi64 lo64; omega
theorem compare_p (a b : Int) : PC Tryz.prog 178 [.agg [.v (.int .u64 (hi64 (a))), .v (.int .u64 (lo64 (a)))], .agg [.v (.int .u64 (hi64 (b))), .v (.int .u64 (lo64 (b)))]] (.v (.int .i64 (sgnI a b))) := by
 obtain ⟨a1, a2, a3⟩ := hl64 a
 obtain ⟨b1, b2, b3⟩ := hl64 b
 refine pc_of_awp Tryz.func178 rfl Tryz.ntmps178 (rs := [.tmp 4]) Tryz.results178 (by simp) fun w0 => ?_
 refine awp_seq ?_
 refine xa 3 ?_
 refine rg_q (q_box rfl (by exact .inr ⟨_, rfl⟩)) ?_
 refine rg_q (q_box rfl (by exact .inr ⟨_, rfl⟩)) ?_
 refine rg_q (q_a rfl) ?_
 refine rs (awp_block ?_)
 refine awp_seq ?_
 refine xa 4 ?_
 refine rg_q (q_loadA (ds := [_, _]) sz269 rfl rfl rfl) ?_
 refine rg_q (q_loadA (ds := [_, _]) sz269 rfl rfl rfl) ?_
 refine rg_q (q_eqlK (xs := [_, _]) (ys := [_, _]) eqk269 rfl rfl rfl rfl) ?_
 refine rg_q (q_a rfl) ?_
 refine xc (awp_cond rfl (fun hc1 => ?_) (fun hc1 => ?_))
 ·
  (try simp only [nb, ne_eq] at hc1)
  have hz : sgnI a b = 0 := by unfold sgnI; rw [if_pos (by simp at hc1; omega)]
  refine awp_seq ?_
  refine xa 1 ?_
  refine rg_q (q_a rfl) ?_
  refine xc (awp_ret ?_)
  refine ⟨_, xk1, ?_⟩
  rw [hz]; rfl
 ·
  (try simp only [nb, ne_eq] at hc1)
  have hne : ¬ a = b := fun e => by subst e; simp at hc1
  refine awp_seq ?_
  refine xa 20 ?_
  refine rg_q (q_fieldAddr fld269_0 rfl) (rg_q (q_load sz117 rfl rfl) (rg_q (q_fieldAddr fld269_0 rfl) (rg_q (q_load sz117 rfl rfl) (rg_q (q_lss rfl rfl) (rg_q (q_m rfl) ?_)))))
  refine rg_g rfl rfl (fun hG => (q_fieldAddr fld269_0 rfl)) ?_
  refine rg_g rfl rfl (fun hG => (q_load sz117 rfl rfl)) ?_
  refine rg_g rfl rfl (fun hG => (q_fieldAddr fld269_0 rfl)) ?_
  refine rg_g rfl rfl (fun hG => (q_load sz117 rfl rfl)) ?_
  refine rg_g rfl rfl (fun hG => (q_eql rfl rfl)) ?_
  refine rg_g rfl rfl (fun hG => (q_m rfl)) ?_
  refine rg_g rfl rfl (fun hG => (q_fieldAddr fld269_1 rfl)) ?_
  refine rg_g rfl rfl (fun hG => (q_load sz117 rfl rfl)) ?_
  refine rg_g rfl rfl (fun hG => (q_fieldAddr fld269_1 rfl)) ?_
  refine rg_g rfl rfl (fun hG => (q_load sz117 rfl rfl)) ?_
  refine rg_g rfl rfl (fun hG => (q_lss rfl rfl)) ?_
  refine rg_pickg rfl rfl rfl rfl rfl rfl rfl rfl ?_
  refine rg_pick rfl rfl rfl rfl rfl rfl ?_
  refine rg_q (q_a rfl) ?_
  refine xc (awp_cond rfl (fun hc3 => ?_) (fun hc3 => ?_))
  ·
   (try simp only [nb, ne_eq] at hc3)
   have hz : sgnI a b = -1 := by unfold sgnI; rw [if_neg hne, if_pos (by omega)]
   refine awp_seq ?_
   refine xa 1 ?_
   refine rg_q (q_a rfl) ?_
   refine xc (awp_ret ?_)
   refine ⟨_, xk1, ?_⟩
   rw [hz]; rfl
  ·
   (try simp only [nb, ne_eq] at hc3)
   have hz : sgnI a b = 1 := by unfold sgnI; rw [if_neg hne, if_neg (by omega)]
   refine awp_skip ?_
   change Awp _ _ _ _ _
   refine awp_seq ?_
   refine xa 1 ?_
   refine rg_q (q_a rfl) ?_
   refine xc (awp_ret ?_)
   refine ⟨_, xk1, ?_⟩
   rw [hz]; rfl

theorem slope_bounds {t v h : Int} (t1 : -200000 ≤ t) (t2 : t ≤ 200000) (v1 : 500 ≤ v) (v2 : v ≤ 10000) (h1 : 1 ≤ h) (h2 : h ≤ 100000) :
    (-2000000000 ≤ t * v ∧ t * v ≤ 2000000000) ∧ (-400000000000000 ≤ t * v * t ∧ t * v * t ≤ 400000000000000) ∧ (0 ≤ t * v * t * v ∧ t * v * t * v ≤ 4000000000000000000) ∧ (0 ≤ t * t ∧ t * t ≤ 40000000000) ∧ (0 ≤ h * h ∧ h * h ≤ 10000000000) := by
  have m1 := mulb (a := t) (b := v) (A := 200000) (B := 10000) (by omega) (by omega) (by omega) (by omega)
  have m2 := mulb (a := t * v) (b := t) (A := 2000000000) (B := 200000) (by omega) (by omega) (by omega) (by omega)
  have m3 := mulb (a := t * v * t) (b := v) (A := 400000000000000) (B := 10000) (by omega) (by omega) (by omega) (by omega)
  obtain ⟨b1, b2, b3, b4⟩ := len_bounds (x := t) (z := h) t1 t2 (by omega) (by omega)
  have m4 := mulb (a := h) (b := h) (A := 100000) (B := 100000) (by omega) (by omega) (by omega) (by omega)
  have e : t * v * t * v = (t * v) * (t * v) := by grind
  have n : 0 ≤ (t * v) * (t * v) := by
    rcases Int.le_total 0 (t * v) with q | q
    · exact Int.mul_nonneg q q
    · have := Int.mul_nonneg (show 0 ≤ -(t * v) by omega) (show 0 ≤ -(t * v) by omega)
      rwa [Int.neg_mul_neg] at this
  refine ⟨by omega, by omega, by omega, ⟨b1, b2⟩, b3, by omega⟩
theorem slope_p (x : Crs) (t : Int) (hx : CrsOk x) (h1 : -100000 ≤ t) (h2 : t ≤ 100000) : PC Tryz.prog 170 [.agg (crsC x), .v (.int .i64 (t))] (.v (.int .i64 (slopeI x t))) := by
 obtain ⟨a1, a2, b1, b2, c1, c2, d1, d2, e1, e2, f1, f2⟩ := hx
 obtain ⟨p1, p2, p3, p4, p5⟩ := slope_bounds (t := t - x.x1) (v := x.v2) (h := x.h1) (by omega) (by omega) f1 f2 c1 c2
 obtain ⟨q1, q2, q3, q4, q5⟩ := slope_bounds (t := x.x2 - t) (v := x.v1) (h := x.h2) (by omega) (by omega) e1 e2 d1 d2
 have hs : -1 ≤ sgnI (oneI x t) (twoI x t) ∧ sgnI (oneI x t) (twoI x t) ≤ 1 := by unfold sgnI; split <;> (try split) <;> omega
 refine pc_of_awp Tryz.func170 rfl Tryz.ntmps170 (rs := [.tmp 4]) Tryz.results170 (by simp) fun w0 => ?_
 refine awp_seq ?_
 refine xa 2 ?_
 refine rg_q (q_box rfl (by exact .inr ⟨_, rfl⟩)) ?_
 refine rg_q (q_a rfl) ?_
 refine rs (xa 12 ?_)
 refine rg_q (q_m rfl) (rg_q (q_fieldAddr fld209_0 rfl) (rg_q (q_fieldAddr fld207_0 rfl) (rg_q (q_load sz3 rfl rfl) ?_)))
 refine rg_q (q_sub rfl rfl xi) ?_
 refine rg_q (q_fieldAddr fld209_0 rfl) (rg_q (q_fieldAddr fld207_3 rfl) (rg_q (q_load sz3 rfl rfl) (rg_q (q_m rfl) ?_)))
 refine rg_q (q_sub rfl rfl xi) ?_
 refine rg_q (q_a rfl) (rg_q (q_a rfl) ?_)
 refine rs (xa 23 ?_)
 refine rg_q (q_m rfl) (rg_q (q_fieldAddr fld209_0 rfl) (rg_q (q_fieldAddr fld207_5 rfl) (rg_q (q_load sz3 rfl rfl) ?_)))
 refine rg_q (q_mul rfl rfl xi) ?_
 refine rg_q (q_m rfl) ?_
 refine rg_q (q_mul rfl rfl xi) ?_
 refine rg_q (q_fieldAddr fld209_0 rfl) (rg_q (q_fieldAddr fld207_5 rfl) (rg_q (q_load sz3 rfl rfl) ?_))
 refine rg_q (q_mul rfl rfl xi) ?_
 refine rg_q (q_m rfl) (rg_q (q_m rfl) ?_)
 refine rg_q (q_mul rfl rfl xi) ?_
 refine rg_q (q_fieldAddr fld209_0 rfl) (rg_q (q_fieldAddr fld207_4 rfl) (rg_q (q_load sz3 rfl rfl) (rg_q (q_fieldAddr fld209_0 rfl) (rg_q (q_fieldAddr fld207_4 rfl) (rg_q (q_load sz3 rfl rfl) ?_)))))
 refine rg_q (q_mul rfl rfl xi) ?_
 refine rg_q (q_add rfl rfl xi) ?_
 refine rg_q (q_call en177 (.cons rfl (.cons rfl .nil)) rfl (times_p _ _ (by omega) (by omega) (by omega) (by omega))) ?_
 refine rg_nil ?_
 refine aops_alloc zr269 rfl rfl rfl ?_
 refine aops_store sz269 rfl rfl (by exact .inr ⟨_, rfl⟩) rfl rfl (by decide) rfl ?_
 refine aops_nil (xq (xa 23 ?_))
 refine rg_q (q_m rfl) (rg_q (q_fieldAddr fld209_0 rfl) (rg_q (q_fieldAddr fld207_2 rfl) (rg_q (q_load sz3 rfl rfl) ?_)))
 refine rg_q (q_mul rfl rfl xi) ?_
 refine rg_q (q_m rfl) ?_
 refine rg_q (q_mul rfl rfl xi) ?_
 refine rg_q (q_fieldAddr fld209_0 rfl) (rg_q (q_fieldAddr fld207_2 rfl) (rg_q (q_load sz3 rfl rfl) ?_))
 refine rg_q (q_mul rfl rfl xi) ?_
 refine rg_q (q_m rfl) (rg_q (q_m rfl) ?_)
 refine rg_q (q_mul rfl rfl xi) ?_
 refine rg_q (q_fieldAddr fld209_0 rfl) (rg_q (q_fieldAddr fld207_1 rfl) (rg_q (q_load sz3 rfl rfl) (rg_q (q_fieldAddr fld209_0 rfl) (rg_q (q_fieldAddr fld207_1 rfl) (rg_q (q_load sz3 rfl rfl) ?_)))))
 refine rg_q (q_mul rfl rfl xi) ?_
 refine rg_q (q_add rfl rfl xi) ?_
 refine rg_q (q_call en177 (.cons rfl (.cons rfl .nil)) rfl (times_p _ _ (by omega) (by omega) (by omega) (by omega))) ?_
 refine rg_nil ?_
 refine aops_alloc zr269 rfl rfl rfl ?_
 refine aops_store sz269 rfl rfl (by exact .inr ⟨_, rfl⟩) rfl rfl (by decide) rfl ?_
 refine aops_nil (xq (xa 4 ?_))
 refine rg_q (q_load_refA (ds := [_, _]) sz269 rfl rfl rfl rfl) ?_
 refine rg_q (q_load_refA (ds := [_, _]) sz269 rfl rfl rfl rfl) ?_
 refine rg_q (q_call en178 (.cons rfl (.cons rfl .nil)) rfl (compare_p (oneI x t) (twoI x t))) ?_
 refine rg_q (q_a rfl) ?_
 refine rs (awp_seq ?_)
 refine xa 7 ?_
 refine rg_q (q_fieldAddr fld209_0 rfl) (rg_q (q_fieldAddr fld207_3 rfl) (rg_q (q_load sz3 rfl rfl) (rg_q (q_fieldAddr fld209_0 rfl) (rg_q (q_fieldAddr fld207_0 rfl) (rg_q (q_load sz3 rfl rfl) ?_)))))
 refine rg_q (q_lss rfl rfl) ?_
 refine xc (awp_cond rfl (fun hc5 => ?_) (fun hc5 => ?_))
 ·
  (try simp only [nb, ne_eq] at hc5)
  have hz : slopeI x t = -(sgnI (oneI x t) (twoI x t)) := by unfold slopeI; rw [if_pos hc5]
  refine xa 3 ?_
  refine rg_q (q_m rfl) ?_
  refine rg_q (q_neg rfl xi) ?_
  refine rg_q (q_a rfl) ?_
  refine rs (xa 2 ?_)
  refine rg_q (q_m rfl) (rg_q (q_a rfl) ?_)
  refine xc (awp_ret ?_)
  refine ⟨_, xk1, ?_⟩
  rw [hz]; rfl
 ·
  (try simp only [nb, ne_eq] at hc5)
  have hz : slopeI x t = sgnI (oneI x t) (twoI x t) := by unfold slopeI; rw [if_neg (by omega)]
  refine awp_skip ?_
  change Awp _ _ _ _ _
  refine awp_seq ?_
  refine xa 2 ?_
  refine rg_q (q_m rfl) (rg_q (q_a rfl) ?_)
  refine xc (awp_ret ?_)
  refine ⟨_, xk1, ?_⟩
  rw [hz]; rfl
theorem ends_p (x : Crs) : PC Tryz.prog 167 [.agg (crsC x)] (.tup [.v (.int .i64 (loX x)), .v (.int .i64 (hiX x))]) := by
 refine pc_of_awp Tryz.func167 rfl Tryz.ntmps167 (rs := [.tmp 2, .tmp 3]) Tryz.results167 (by simp) fun w0 => ?_
 refine awp_seq ?_
 refine xa 3 ?_
 refine rg_q (q_box rfl (by exact .inr ⟨_, rfl⟩)) ?_
 refine rg_q (q_a rfl) (rg_q (q_a rfl) ?_)
 refine rs (xa 16 ?_)
 refine rg_q (q_fieldAddr fld209_0 rfl) (rg_q (q_fieldAddr fld207_0 rfl) (rg_q (q_load sz3 rfl rfl) (rg_q (q_fieldAddr fld209_0 rfl) (rg_q (q_fieldAddr fld207_3 rfl) (rg_q (q_load sz3 rfl rfl) ?_)))))
 refine rg_q (q_min rfl rfl) ?_
 refine rg_q (q_fieldAddr fld209_0 rfl) (rg_q (q_fieldAddr fld207_0 rfl) (rg_q (q_load sz3 rfl rfl) (rg_q (q_fieldAddr fld209_0 rfl) (rg_q (q_fieldAddr fld207_3 rfl) (rg_q (q_load sz3 rfl rfl) ?_)))))
 refine rg_q (q_max rfl rfl) ?_
 refine rg_q (q_a rfl) (rg_q (q_a rfl) ?_)
 refine xc (awp_ret ?_)
 refine ⟨_, xk2, ?_⟩
 rfl
theorem has_p (x : Crs) (t : Int) : PC Tryz.prog 152 [.agg (crsC x), .v (.int .i64 (t))] (.v (.bool (inR (loX x) t (hiX x)))) := by
 refine pc_of_awp Tryz.func152 rfl Tryz.ntmps152 (rs := [.tmp 4]) Tryz.results152 (by simp) fun w0 => ?_
 refine awp_seq ?_
 refine xa 2 ?_
 refine rg_q (q_box rfl (by exact .inr ⟨_, rfl⟩)) ?_
 refine rg_q (q_a rfl) ?_
 refine rs (xa 7 ?_)
 refine rg_q (q_loadA (ds := [_, _, _, _, _, _]) sz209 rfl rfl rfl) ?_
 refine rg_q (q_call en167 (.cons rfl .nil) rfl (ends_p _)) ?_
 refine rg_q (q_move (x := .d (.tup _)) rfl) (rg_q (q_extract rfl rfl) (rg_q (q_extract rfl rfl) (rg_q (q_a rfl) (rg_q (q_a rfl) ?_))))
 refine rs (xa 5 ?_)
 refine rg_q (q_m rfl) (rg_q (q_m rfl) (rg_q (q_m rfl) ?_))
 refine rg_q (q_call en146 (.cons rfl (.cons rfl (.cons rfl .nil))) rfl (rwithin_p _ _ _)) ?_
 refine rg_q (q_a rfl) ?_
 refine xc (awp_ret ?_)
 refine ⟨_, xk1, ?_⟩
 rfl
theorem cross1_p (x : Crs) (n : Int) (hx : CrsOk x) (h1 : 0 ≤ n) (h2 : n < hiX x - loX x + 1) : PC Tryz.prog 169 [.v (.int .i64 (n)), .pt (crsC x) 0, .pt [.v (.int .i64 (loX x))] 0] (.v (.bool (decide (0 < slopeI x (loX x + n))))) := by
 have hx0 := hx
 obtain ⟨a1, a2, b1, b2, c1, c2, d1, d2, e1, e2, f1, f2⟩ := hx0
 have hl : -100000 ≤ loX x ∧ hiX x ≤ 100000 := by unfold loX hiX; omega
 refine pc_of_awp Tryz.func169 rfl Tryz.ntmps169 (rs := [.tmp 4]) Tryz.results169 (by simp) fun w0 => ?_
 refine awp_seq ?_
 refine xa 1 ?_
 refine rg_q (q_a rfl) ?_
 refine rs (xa 7 ?_)
 refine rg_q (q_loadA (ds := [_, _, _, _, _, _]) sz209 rfl rfl rfl) ?_
 refine rg_q (q_load sz3 rfl rfl) (rg_q (q_m rfl) ?_)
 refine rg_q (q_add rfl rfl xi) ?_
 refine rg_q (q_call en170 (.cons rfl (.cons rfl .nil)) rfl (slope_p _ _ hx (by omega) (by omega))) ?_
 refine rg_q (q_gtr rfl rfl) (rg_q (q_a rfl) ?_)
 refine xc (awp_ret ?_)
 refine ⟨_, xk1, ?_⟩
 rfl
theorem crossing_p (x : Crs) (hx : CrsOk x) : PC Tryz.prog 150 [.agg (crsC x)] (.v (.int .i64 (crossI x))) := by
 have hx0 := hx
 obtain ⟨a1, a2, b1, b2, c1, c2, d1, d2, e1, e2, f1, f2⟩ := hx0
 have hl : -100000 ≤ loX x ∧ loX x ≤ hiX x ∧ hiX x ≤ 100000 := by unfold loX hiX; omega
 have hs := cross_spec hx
 have hcr : crossI x = loX x - 1 + srch (fun n => decide (0 < slopeI x (loX x + n))) (hiX x - loX x + 1) := rfl
 refine pc_of_awpN Tryz.func150 rfl Tryz.ntmps150 (rs := [.tmp 2]) Tryz.results150 (by simp) fun w0 hmine hrnd hpn => ?_
 refine awp_seq ?_
 refine xa 2 ?_
 refine rg_q (q_box rfl (by exact .inr ⟨_, rfl⟩)) ?_
 refine rg_q (q_a rfl) ?_
 refine rs (xa 5 ?_)
 refine rg_q (q_loadA (ds := [_, _, _, _, _, _]) sz209 rfl rfl rfl) ?_
 refine rg_q (q_call en167 (.cons rfl .nil) rfl (ends_p _)) ?_
 refine rg_q (q_move (x := .d (.tup _)) rfl) (rg_q (q_extract rfl rfl) (rg_q (q_extract rfl rfl) ?_))
 refine rg_nil ?_
 refine aops_alloc zr3 rfl rfl rfl ?_
 refine aops_store sz3 rfl rfl (by exact .inl rfl) rfl rfl (by decide) rfl ?_
 refine aops_q rfl (q_a rfl) ?_
 refine aops_nil (xq ?_)
 refine Awp.le (le_freeze 3 3 0 (cs := [.v (.int .i64 (loX x))]) rfl rfl rfl rfl hmine) ?_
 refine xa 10 ?_
 refine rg_q (q_load sz3 rfl rfl) ?_
 refine rg_q (q_sub rfl rfl xi) ?_
 refine rg_q (q_m rfl) (rg_q (q_load sz3 rfl rfl) ?_)
 refine rg_q (q_sub rfl rfl xi) ?_
 refine rg_q (q_add rfl rfl xi) ?_
 refine rg_q (q_makeFunc (.cons rfl (.cons rfl .nil))) ?_
 refine rg_q (q_call en168 (.cons rfl (.cons rfl .nil)) rfl (search_p (fun n => decide (0 < slopeI x (loX x + n))) 169 [.pt (crsC x) 0, .pt [.v (.int .i64 (loX x))] 0] en169 (hiX x - loX x + 1) (by omega) (fun h a b => cross1_p x h hx a b))) ?_
 refine rg_q (q_add rfl rfl xi) ?_
 refine rg_q (q_a rfl) ?_
 refine xc (awp_ret ?_)
 refine ⟨_, xk1, ?_⟩
 rfl

structure TimIn (r : Rg) : Prop where
  a : 0 ≤ r.1
  b : r.1 ≤ 20000000000
  c : 0 ≤ r.2
  d : r.2 ≤ 20000000000
theorem tim_in {r : Rg} {v : Int} (hr : LenIn r) (h1 : 500 ≤ v) : 0 ≤ (timI r v).1 ∧ (timI r v).1 ≤ 8000000000 ∧ 0 ≤ (timI r v).2 ∧ (timI r v).2 ≤ 8000000000 := by
  obtain ⟨a, b, c, d, e⟩ := hr
  have hv : 0 < v := by omega
  have k : ∀ n : Int, 0 ≤ n → n ≤ 400000000 → 0 ≤ n * 10000 / v ∧ n * 10000 / v ≤ 8000000000 := fun n h0 h2 => by
    refine ⟨Int.ediv_nonneg (by omega) (by omega), ?_⟩
    have := Int.ediv_le_ediv hv (show n * 10000 ≤ 8000000000 * v by omega)
    rwa [Int.mul_ediv_cancel _ (by omega)] at this
  have k2 : ∀ n : Int, 0 ≤ n → n ≤ 400000000 → 0 ≤ ceilI (n * 10000) v ∧ ceilI (n * 10000) v ≤ 8000000000 := fun n h0 h2 => by
    unfold ceilI
    constructor
    · have := Int.ediv_le_ediv hv (show -(n * 10000) ≤ 0 by omega)
      rw [Int.zero_ediv] at this; omega
    · have := Int.ediv_le_ediv hv (show (-8000000000) * v ≤ -(n * 10000) by omega)
      rw [Int.mul_ediv_cancel _ (by omega)] at this; omega
  unfold timI
  exact ⟨(k _ a b).1, (k _ a b).2, (k2 _ c d).1, (k2 _ c d).2⟩
theorem timeAt_in {x : Crs} {t : Int} (hx : CrsOk x) (h1 : -100000 ≤ t) (h2 : t ≤ 100000) : TimIn (timeAtI x t) := by
  obtain ⟨a1, a2, b1, b2, c1, c2, d1, d2, e1, e2, f1, f2⟩ := hx
  obtain ⟨p1, p2, p3, p4⟩ := tim_in (len_in (x := t - x.x1) (z := x.h1) (by omega) (by omega) (by omega) (by omega)) e1
  obtain ⟨q1, q2, q3, q4⟩ := tim_in (len_in (x := x.x2 - t) (z := x.h2) (by omega) (by omega) (by omega) (by omega)) f1
  unfold timeAtI
  exact ⟨by simp only; omega, by simp only; omega, by simp only; omega, by simp only; omega⟩
theorem timeAt_p (x : Crs) (t : Int) (hx : CrsOk x) (h1 : -100000 ≤ t) (h2 : t ≤ 100000) : PC Tryz.prog 151 [.agg (crsC x), .v (.int .i64 (t))] (.agg [.v (.int .i64 ((timeAtI x t).1)), .v (.int .i64 ((timeAtI x t).2))]) := by
 obtain ⟨a1, a2, b1, b2, c1, c2, d1, d2, e1, e2, f1, f2⟩ := hx
 have l1 := len_in (x := t - x.x1) (z := x.h1) (by omega) (by omega) (by omega) (by omega)
 have l2 := len_in (x := x.x2 - t) (z := x.h2) (by omega) (by omega) (by omega) (by omega)
 obtain ⟨p1, p2, p3, p4⟩ := tim_in l1 e1
 obtain ⟨q1, q2, q3, q4⟩ := tim_in l2 f1
 refine pc_of_awp Tryz.func151 rfl Tryz.ntmps151 (rs := [.cell 4 58]) Tryz.results151 (by simp) fun w0 => ?_
 refine awp_seq ?_
 refine xa 1 ?_
 refine rg_q (q_box rfl (by exact .inr ⟨_, rfl⟩)) ?_
 refine rg_nil ?_
 refine aops_alloc zr58 rfl rfl rfl ?_
 refine aops_nil (xq (xa 27 ?_))
 refine rg_q (q_m rfl) (rg_q (q_fieldAddr fld209_0 rfl) (rg_q (q_fieldAddr fld207_0 rfl) (rg_q (q_load sz3 rfl rfl) ?_)))
 refine rg_q (q_sub rfl rfl xi) ?_
 refine rg_q (q_fieldAddr fld209_0 rfl) (rg_q (q_fieldAddr fld207_1 rfl) (rg_q (q_load sz3 rfl rfl) ?_))
 refine rg_q (q_call en172 (.cons rfl (.cons rfl .nil)) rfl (length_p _ _ (by omega) (by omega) (by omega) (by omega))) ?_
 refine rg_q (q_fieldAddr fld209_0 rfl) (rg_q (q_fieldAddr fld207_2 rfl) (rg_q (q_load sz3 rfl rfl) ?_))
 refine rg_q (q_call en171 (.cons rfl (.cons rfl .nil)) rfl (time_p (lenI (t - x.x1) x.h1) x.v1 l1 e1)) ?_
 refine rg_q (q_fieldAddr fld209_0 rfl) (rg_q (q_fieldAddr fld207_3 rfl) (rg_q (q_load sz3 rfl rfl) (rg_q (q_m rfl) ?_)))
 refine rg_q (q_sub rfl rfl xi) ?_
 refine rg_q (q_fieldAddr fld209_0 rfl) (rg_q (q_fieldAddr fld207_4 rfl) (rg_q (q_load sz3 rfl rfl) ?_))
 refine rg_q (q_call en172 (.cons rfl (.cons rfl .nil)) rfl (length_p _ _ (by omega) (by omega) (by omega) (by omega))) ?_
 refine rg_q (q_fieldAddr fld209_0 rfl) (rg_q (q_fieldAddr fld207_5 rfl) (rg_q (q_load sz3 rfl rfl) ?_))
 refine rg_q (q_call en171 (.cons rfl (.cons rfl .nil)) rfl (time_p (lenI (x.x2 - t) x.h2) x.v2 l2 f1)) ?_
 refine rg_q (q_call en120 (.cons rfl (.cons rfl .nil)) rfl (plus_p (timI (lenI (t - x.x1) x.h1) x.v1) (timI (lenI (x.x2 - t) x.h2) x.v2) (by omega) (by omega) (by omega) (by omega) (by omega) (by omega) (by omega) (by omega))) ?_
 refine rg_nil ?_
 refine aops_store sz58 rfl rfl (by exact .inr ⟨_, rfl⟩) rfl rfl (by decide) rfl ?_
 refine aops_nil ?_
 change Awp _ _ _ _ _
 refine awp_ret ?_
 refine ⟨_, (.cons (.cellA rfl rfl sz58 rfl) .nil), ?_⟩
 rfl

theorem up_in {n d : Int} (hn : 0 ≤ n) (hd : 0 < d) : 0 ≤ ceilI n d ∧ ceilI n d ≤ n := by
  unfold ceilI
  have h1 := Int.ediv_le_ediv hd (show -n ≤ 0 by omega)
  rw [Int.zero_ediv] at h1
  refine ⟨by omega, ?_⟩
  have h2 : (-n) ≤ (-n) / d := by
    rw [Int.le_ediv_iff_mul_le hd]
    have := Int.mul_le_mul_of_nonneg_left (show (1 : Int) ≤ d by omega) hn
    grind
  omega
theorem least_in {x : Crs} (hx : CrsOk x) : TimIn (leastI x) := by
  have hs := cross_spec hx
  have hx0 := hx
  obtain ⟨a1, a2, b1, b2, c1, c2, d1, d2, e1, e2, f1, f2⟩ := hx0
  have hl : -100000 ≤ loX x ∧ hiX x ≤ 100000 := by unfold loX hiX; omega
  obtain ⟨p1, p2, p3, p4⟩ := timeAt_in (t := crossI x) hx (by omega) (by omega)
  have u1 := up_in (n := 10000000) (d := x.v1 * x.h1) (by omega) (Int.mul_pos (by omega) (by omega))
  have u2 := up_in (n := 10000000) (d := x.v2 * x.h2) (by omega) (Int.mul_pos (by omega) (by omega))
  have h0 : 0 ≤ (least0 x).1 ∧ (least0 x).1 ≤ 20000000000 ∧ 0 ≤ (least0 x).2 ∧ (least0 x).2 ≤ 20000000000 := by
    unfold least0
    split
    · rename_i h
      simp [inR] at h
      obtain ⟨q1, q2, q3, q4⟩ := timeAt_in (t := crossI x + 1) hx (by omega) (by omega)
      simp only; omega
    · omega
  unfold leastI
  exact ⟨by simp only; omega, by simp only; omega, by simp only; omega, by simp only; omega⟩
theorem least_p (x : Crs) (hx : CrsOk x) : PC Tryz.prog 121 [.agg (crsC x)] (.agg [.v (.int .i64 ((leastI x).1)), .v (.int .i64 ((leastI x).2))]) := by
 have hs := cross_spec hx
 have hx0 := hx
 obtain ⟨a1, a2, b1, b2, c1, c2, d1, d2, e1, e2, f1, f2⟩ := hx0
 have hl : -100000 ≤ loX x ∧ hiX x ≤ 100000 := by unfold loX hiX; omega
 obtain ⟨p1, p2, p3, p4⟩ := timeAt_in (t := crossI x) hx (by omega) (by omega)
 have m1 := mulb (a := x.v1) (b := x.h1) (A := 10000) (B := 100000) (by omega) (by omega) (by omega) (by omega)
 have m2 := mulb (a := x.v2) (b := x.h2) (A := 10000) (B := 100000) (by omega) (by omega) (by omega) (by omega)
 have m3 := Int.mul_pos (show 0 < x.v1 by omega) (show 0 < x.h1 by omega)
 have m4 := Int.mul_pos (show 0 < x.v2 by omega) (show 0 < x.h2 by omega)
 have u1 := up_in (n := 10000000) (d := x.v1 * x.h1) (by omega) m3
 have u2 := up_in (n := 10000000) (d := x.v2 * x.h2) (by omega) m4
 refine pc_of_awp Tryz.func121 rfl Tryz.ntmps121 (rs := [.cell 2 58]) Tryz.results121 (by simp) fun w0 => ?_
 refine awp_seq ?_
 refine xa 1 ?_
 refine rg_q (q_box rfl (by exact .inr ⟨_, rfl⟩)) ?_
 refine rg_nil ?_
 refine aops_alloc zr58 rfl rfl rfl ?_
 refine aops_nil (xq (xa 3 ?_))
 refine rg_q (q_loadA (ds := [_, _, _, _, _, _]) sz209 rfl rfl rfl) ?_
 refine rg_q (q_call en150 (.cons rfl .nil) rfl (crossing_p _ hx)) ?_
 refine rg_q (q_a rfl) ?_
 refine rs (xa 3 ?_)
 refine rg_q (q_loadA (ds := [_, _, _, _, _, _]) sz209 rfl rfl rfl) ?_
 refine rg_q (q_m rfl) ?_
 refine rg_q (q_call en151 (.cons rfl (.cons rfl .nil)) rfl (timeAt_p _ _ hx (by omega) (by omega))) ?_
 refine rg_nil ?_
 refine aops_alloc zr58 rfl rfl rfl ?_
 refine aops_store sz58 rfl rfl (by exact .inr ⟨_, rfl⟩) rfl rfl (by decide) rfl ?_
 refine aops_nil (xq (awp_seq ?_))
 refine xa 4 ?_
 refine rg_q (q_loadA (ds := [_, _, _, _, _, _]) sz209 rfl rfl rfl) ?_
 refine rg_q (q_m rfl) ?_
 refine rg_q (q_add rfl rfl xi) ?_
 refine rg_q (q_call en152 (.cons rfl (.cons rfl .nil)) rfl (has_p _ _)) ?_
 refine xc (awp_cond rfl (fun hc3 => ?_) (fun hc3 => ?_))
 ·
  (try simp only [nb, ne_eq] at hc3)
  have hz : least0 x = (min (timeAtI x (crossI x)).1 (timeAtI x (crossI x + 1)).1, min (timeAtI x (crossI x)).2 (timeAtI x (crossI x + 1)).2) := by unfold least0; rw [if_pos hc3]
  have hc3' := hc3
  simp [inR] at hc3'
  obtain ⟨q1, q2, q3, q4⟩ := timeAt_in (t := crossI x + 1) hx (by omega) (by omega)
  refine awp_seq ?_
  refine xa 4 ?_
  refine rg_q (q_loadA (ds := [_, _, _, _, _, _]) sz209 rfl rfl rfl) ?_
  refine rg_q (q_m rfl) ?_
  refine rg_q (q_add rfl rfl xi) ?_
  refine rg_q (q_call en151 (.cons rfl (.cons rfl .nil)) rfl (timeAt_p _ _ hx (by omega) (by omega))) ?_
  refine rg_nil ?_
  refine aops_alloc zr58 rfl rfl rfl ?_
  refine aops_store sz58 rfl rfl (by exact .inr ⟨_, rfl⟩) rfl rfl (by decide) rfl ?_
  refine aops_nil ?_
  change Awp _ _ _ _ _
  refine xa 11 ?_
  refine rg_q (q_fieldAddr_ref fld58_0 rfl) (rg_q (q_load_ref sz3 rfl rfl rfl) (rg_q (q_fieldAddr_ref fld58_0 rfl) (rg_q (q_load_ref sz3 rfl rfl rfl) ?_)))
  refine rg_q (q_min rfl rfl) ?_
  refine rg_q (q_fieldAddr_ref fld58_1 rfl) (rg_q (q_load_ref sz3 rfl rfl rfl) (rg_q (q_fieldAddr_ref fld58_1 rfl) (rg_q (q_load_ref sz3 rfl rfl rfl) ?_)))
  refine rg_q (q_min rfl rfl) ?_
  refine rg_q (q_build (cs := [_, _]) pl58 zr58 rfl (.cons rfl (by exact .inl rfl) (.cons rfl (by exact .inl rfl) .nil)) ⟨⟨rfl, by decide⟩, ⟨rfl, by decide⟩, trivial⟩ rfl) ?_
  refine rg_nil ?_
  refine aops_store sz58 rfl rfl (by exact .inr ⟨_, rfl⟩) rfl rfl (by exact Nat.le_of_ble_eq_true rfl) rfl ?_
  refine aops_nil (xq (xa 22 ?_))
  refine rg_q (q_fieldAddr_ref fld58_0 rfl) (rg_q (q_load_ref sz3 rfl rfl rfl) (rg_q (q_fieldAddr fld209_0 rfl) (rg_q (q_fieldAddr fld207_2 rfl) (rg_q (q_load sz3 rfl rfl) (rg_q (q_fieldAddr fld209_0 rfl) ?_)))))
  refine rg_q (q_fieldAddr fld207_1 rfl) (rg_q (q_load sz3 rfl rfl) ?_)
  refine rg_q (q_mul rfl rfl xi) ?_
  refine rg_q (q_call en153 (.cons rfl (.cons rfl .nil)) rfl (up_p _ _ ⟨by omega, by omega⟩ (by omega))) ?_
  refine rg_q (q_sub rfl rfl xi) ?_
  refine rg_q (q_fieldAddr fld209_0 rfl) (rg_q (q_fieldAddr fld207_5 rfl) (rg_q (q_load sz3 rfl rfl) (rg_q (q_fieldAddr fld209_0 rfl) (rg_q (q_fieldAddr fld207_4 rfl) (rg_q (q_load sz3 rfl rfl) ?_)))))
  refine rg_q (q_mul rfl rfl xi) ?_
  refine rg_q (q_call en153 (.cons rfl (.cons rfl .nil)) rfl (up_p _ _ ⟨by omega, by omega⟩ (by omega))) ?_
  refine rg_q (q_sub rfl rfl xi) ?_
  refine rg_q (q_max rfl rfl) ?_
  refine rg_q (q_fieldAddr_ref fld58_0 rfl) ?_
  refine rg_nil ?_
  refine aops_store sz3 rfl rfl (by exact .inl rfl) rfl rfl (by exact Nat.le_of_ble_eq_true rfl) rfl ?_
  refine aops_nil (xq (xa 1 ?_))
  refine rg_q (q_load_refA (ds := [_, _]) sz58 rfl rfl rfl rfl) ?_
  refine rg_nil ?_
  refine aops_store sz58 rfl rfl (by exact .inr ⟨_, rfl⟩) rfl rfl (by decide) rfl ?_
  refine aops_nil ?_
  change Awp _ _ _ _ _
  refine awp_ret ?_
  refine ⟨_, (.cons (.cellA rfl rfl sz58 rfl) .nil), ?_⟩
  unfold leastI; rw [hz]; rfl
 ·
  (try simp only [nb, ne_eq] at hc3)
  have hz : least0 x = timeAtI x (crossI x) := by unfold least0; rw [if_neg (by simpa using hc3)]
  refine awp_skip ?_
  change Awp _ _ _ _ _
  refine awp_seq ?_
  refine xa 22 ?_
  refine rg_q (q_fieldAddr_ref fld58_0 rfl) (rg_q (q_load_ref sz3 rfl rfl rfl) (rg_q (q_fieldAddr fld209_0 rfl) (rg_q (q_fieldAddr fld207_2 rfl) (rg_q (q_load sz3 rfl rfl) (rg_q (q_fieldAddr fld209_0 rfl) ?_)))))
  refine rg_q (q_fieldAddr fld207_1 rfl) (rg_q (q_load sz3 rfl rfl) ?_)
  refine rg_q (q_mul rfl rfl xi) ?_
  refine rg_q (q_call en153 (.cons rfl (.cons rfl .nil)) rfl (up_p _ _ ⟨by omega, by omega⟩ (by omega))) ?_
  refine rg_q (q_sub rfl rfl xi) ?_
  refine rg_q (q_fieldAddr fld209_0 rfl) (rg_q (q_fieldAddr fld207_5 rfl) (rg_q (q_load sz3 rfl rfl) (rg_q (q_fieldAddr fld209_0 rfl) (rg_q (q_fieldAddr fld207_4 rfl) (rg_q (q_load sz3 rfl rfl) ?_)))))
  refine rg_q (q_mul rfl rfl xi) ?_
  refine rg_q (q_call en153 (.cons rfl (.cons rfl .nil)) rfl (up_p _ _ ⟨by omega, by omega⟩ (by omega))) ?_
  refine rg_q (q_sub rfl rfl xi) ?_
  refine rg_q (q_max rfl rfl) ?_
  refine rg_q (q_fieldAddr_ref fld58_0 rfl) ?_
  refine rg_nil ?_
  refine aops_store sz3 rfl rfl (by exact .inl rfl) rfl rfl (by exact Nat.le_of_ble_eq_true rfl) rfl ?_
  refine aops_nil (xq (xa 1 ?_))
  refine rg_q (q_load_refA (ds := [_, _]) sz58 rfl rfl rfl rfl) ?_
  refine rg_nil ?_
  refine aops_store sz58 rfl rfl (by exact .inr ⟨_, rfl⟩) rfl rfl (by decide) rfl ?_
  refine aops_nil ?_
  change Awp _ _ _ _ _
  refine awp_ret ?_
  refine ⟨_, (.cons (.cellA rfl rfl sz58 rfl) .nil), ?_⟩
  unfold leastI; rw [hz]; rfl
end Go.Proofs.YtcdccdcbfbakfaaGreatDoor.Am.M
-- mini
set_option maxRecDepth 100000
namespace Go.Proofs.YtcdccdcbfbakfaaGreatDoor.Am.M
open Go

structure Md where
  w : Int
  m : Int
  k : Int
  t : Int
def mdC (x : Md) : List D := [.v (.int .i64 x.w), .v (.int .i64 x.m), .v (.int .i64 x.k), .v (.int .i64 x.t)]
def speedE (v : Int) : Int := mustI (inR 500 v 10000) 2
def modeE (m : Md) : Int := firstE [speedE m.w, speedE m.m, mustI (inR 0 m.k 4 && inR 2 m.t 20000) 2]
def spotB (p : Int × Int) : Bool := inR (-100000) p.1 100000 && inR (-100000) p.2 100000
def spotE (p : Int × Int) : Int := mustI (spotB p) 2
theorem must_zero {b : Bool} {e : Int} (he : e ≠ 0) : mustI b e = 0 ↔ b = true := by unfold mustI; split <;> simp_all
theorem first_zero : ∀ {l : List Int}, firstE l = 0 ↔ ∀ x ∈ l, x = 0
  | [] => by simp [firstE]
  | x :: xs => by
    unfold firstE
    by_cases h : x = 0
    · rw [if_pos h, first_zero]; simp [h]
    · rw [if_neg h]; simp [h]
structure MdOk (m : Md) : Prop where
  w1 : 500 ≤ m.w
  w2 : m.w ≤ 10000
  m1 : 500 ≤ m.m
  m2 : m.m ≤ 10000
  k1 : 0 ≤ m.k
  k2 : m.k ≤ 4
  t1 : 2 ≤ m.t
  t2 : m.t ≤ 20000
theorem mode_ok {m : Md} : modeE m = 0 ↔ MdOk m := by
  unfold modeE speedE
  rw [first_zero]
  simp only [List.mem_cons, List.not_mem_nil, or_false, forall_eq_or_imp, forall_eq, must_zero (show (2 : Int) ≠ 0 by omega), inR, Bool.and_eq_true, decide_eq_true_eq]
  exact ⟨fun ⟨⟨a, b⟩, ⟨c, d⟩, ⟨e, f⟩, g, h⟩ => ⟨a, b, c, d, e, f, g, h⟩, fun ⟨a, b, c, d, e, f, g, h⟩ => ⟨⟨a, b⟩, ⟨c, d⟩, ⟨e, f⟩, g, h⟩⟩
theorem spot_ok {p : Int × Int} : spotE p = 0 ↔ (-100000 ≤ p.1 ∧ p.1 ≤ 100000) ∧ -100000 ≤ p.2 ∧ p.2 ≤ 100000 := by
  unfold spotE spotB
  rw [must_zero (by omega)]
  simp [inR]
theorem isThick_p (n : Int) : PC Tryz.prog 147 [.v (.int .i64 (n))] (.v (.bool (inR 2 n 20000))) := by
 refine pc_of_awp Tryz.func147 rfl Tryz.ntmps147 (rs := [.tmp 2]) Tryz.results147 (by simp) fun w0 => ?_
 refine awp_seq ?_
 refine xa 1 ?_
 refine rg_q (q_a rfl) ?_
 refine rs (xa 3 ?_)
 refine rg_q (q_m rfl) ?_
 refine rg_q (q_call en146 (.cons rfl (.cons rfl (.cons rfl .nil))) rfl (rwithin_p _ _ _)) ?_
 refine rg_q (q_a rfl) ?_
 refine xc (awp_ret ?_)
 refine ⟨_, xk1, ?_⟩
 rfl
theorem speedErr_p (v : Int) : PC Tryz.prog 144 [.v (.int .i64 (v))] (.v (.int .i64 (speedE v))) := by
 refine pc_of_awp Tryz.func144 rfl Tryz.ntmps144 (rs := [.tmp 2]) Tryz.results144 (by simp) fun w0 => ?_
 refine awp_seq ?_
 refine xa 1 ?_
 refine rg_q (q_a rfl) ?_
 refine rs (xa 4 ?_)
 refine rg_q (q_m rfl) ?_
 refine rg_q (q_call en146 (.cons rfl (.cons rfl (.cons rfl .nil))) rfl (rwithin_p _ _ _)) ?_
 refine rg_q (q_call en145 (.cons rfl (.cons rfl .nil)) rfl (must_p _ _)) ?_
 refine rg_q (q_a rfl) ?_
 refine xc (awp_ret ?_)
 refine ⟨_, xk1, ?_⟩
 rfl
theorem checkMode_p (m : Md) : PC Tryz.prog 118 [.agg (mdC m)] (.v (.int .i64 (modeE m))) := by
 refine pc_of_awp Tryz.func118 rfl Tryz.ntmps118 (rs := [.tmp 2]) Tryz.results118 (by simp) fun w0 => ?_
 refine awp_seq ?_
 refine xa 2 ?_
 refine rg_q (q_box rfl (by exact .inr ⟨_, rfl⟩)) ?_
 refine rg_q (q_a rfl) ?_
 refine rs (xa 18 ?_)
 refine rg_q (q_fieldAddr fld46_0 rfl) (rg_q (q_load sz3 rfl rfl) ?_)
 refine rg_q (q_call en144 (.cons rfl .nil) rfl (speedErr_p _)) ?_
 refine rg_q (q_fieldAddr fld46_1 rfl) (rg_q (q_load sz3 rfl rfl) ?_)
 refine rg_q (q_call en144 (.cons rfl .nil) rfl (speedErr_p _)) ?_
 refine rg_q (q_fieldAddr fld46_2 rfl) (rg_q (q_load sz3 rfl rfl) ?_)
 refine rg_q (q_call en146 (.cons rfl (.cons rfl (.cons rfl .nil))) rfl (rwithin_p _ _ _)) ?_
 refine rg_q (q_m rfl) ?_
 refine rg_g rfl rfl (fun hG => (q_fieldAddr fld46_3 rfl)) ?_
 refine rg_g rfl rfl (fun hG => (q_load sz3 rfl rfl)) ?_
 refine rg_g rfl rfl (fun hG => (q_call en147 (.cons rfl .nil) rfl (isThick_p _))) ?_
 refine rg_pick rfl rfl rfl rfl rfl rfl ?_
 refine rg_q (q_call en145 (.cons rfl (.cons rfl .nil)) rfl (must_p _ _)) ?_
 refine rg_q (q_buildSlice sl199 zr29 rfl rfl (by decide) (.cons rfl (by exact .inl rfl) (.cons rfl (by exact .inl rfl) (.cons rfl (by exact .inl rfl) .nil))) ⟨rfl, rfl, rfl, rfl, rfl, rfl, trivial⟩ rfl (by decide) rfl) ?_
 refine rg_q (q_call en117 (.cons rfl .nil) rfl (rfirst_p [_, _, _])) ?_
 refine rg_q (q_a rfl) ?_
 refine xc (awp_ret ?_)
 refine ⟨_, xk1, ?_⟩
 simp only [bif_and]; rfl
theorem rspotErr_p (p : Int × Int) : PC Tryz.prog 148 [.agg (shC p)] (.v (.int .i64 (spotE p))) := by
 refine pc_of_awp Tryz.func148 rfl Tryz.ntmps148 (rs := [.tmp 2]) Tryz.results148 (by simp) fun w0 => ?_
 refine awp_seq ?_
 refine xa 2 ?_
 refine rg_q (q_box rfl (by exact .inr ⟨_, rfl⟩)) ?_
 refine rg_q (q_a rfl) ?_
 refine rs (xa 10 ?_)
 refine rg_q (q_fieldAddr fld23_0 rfl) (rg_q (q_load sz3 rfl rfl) ?_)
 refine rg_q (q_call en166 (.cons rfl (.cons rfl .nil)) rfl (rsmall_p _ _ (by omega) (by omega))) ?_
 refine rg_q (q_m rfl) ?_
 refine rg_g rfl rfl (fun hG => (q_fieldAddr fld23_1 rfl)) ?_
 refine rg_g rfl rfl (fun hG => (q_load sz3 rfl rfl)) ?_
 refine rg_g rfl rfl (fun hG => (q_call en166 (.cons rfl (.cons rfl .nil)) rfl (rsmall_p _ _ (by omega) (by omega)))) ?_
 refine rg_pick rfl rfl rfl rfl rfl rfl ?_
 refine rg_q (q_call en145 (.cons rfl (.cons rfl .nil)) rfl (must_p _ _)) ?_
 refine rg_q (q_a rfl) ?_
 refine xc (awp_ret ?_)
 refine ⟨_, xk1, ?_⟩
 simp only [bif_and]; rfl

def unfI (m : Md) (z : Int) : Int := if m.k.tmod 2 = 1 then m.k * m.t + (m.t - z) else m.k * m.t + z
theorem kt_bounds {m : Md} (h : MdOk m) : 0 ≤ m.k * m.t ∧ m.k * m.t ≤ 80000 := by
  obtain ⟨_, _, _, _, k1, k2, t1, t2⟩ := h
  have := mulb (a := m.k) (b := m.t) (A := 4) (B := 20000) (by omega) (by omega) (by omega) (by omega)
  exact ⟨Int.mul_nonneg k1 (by omega), by omega⟩
theorem unfolded_p (m : Md) (z : Int) (hm : MdOk m) (h1 : -100000 ≤ z) (h2 : z ≤ 100000) : PC Tryz.prog 149 [.agg (mdC m), .v (.int .i64 (z))] (.v (.int .i64 (unfI m z))) := by
 obtain ⟨b1, b2⟩ := kt_bounds hm
 obtain ⟨w1, w2, m1, m2, k1, k2, t1, t2⟩ := hm
 refine pc_of_awp Tryz.func149 rfl Tryz.ntmps149 (rs := [.tmp 4]) Tryz.results149 (by simp) fun w0 => ?_
 refine awp_seq ?_
 refine xa 2 ?_
 refine rg_q (q_box rfl (by exact .inr ⟨_, rfl⟩)) ?_
 refine rg_q (q_a rfl) ?_
 refine rs (awp_seq ?_)
 refine xa 4 ?_
 refine rg_q (q_fieldAddr fld46_2 rfl) (rg_q (q_load sz3 rfl rfl) ?_)
 refine rg_q (q_rem rfl rfl (by omega)) ?_
 refine rg_q (q_eql rfl rfl) ?_
 refine xc (awp_cond rfl (fun hc1 => ?_) (fun hc1 => ?_))
 ·
  (try simp only [nb, ne_eq] at hc1)
  have hz : unfI m z = m.k * m.t + (m.t - z) := by unfold unfI; rw [if_pos hc1]
  refine xa 5 ?_
  refine rg_q (q_fieldAddr fld46_3 rfl) (rg_q (q_load sz3 rfl rfl) (rg_q (q_m rfl) ?_))
  refine rg_q (q_sub rfl rfl xi) ?_
  refine rg_q (q_a rfl) ?_
  refine rs (xa 8 ?_)
  refine rg_q (q_fieldAddr fld46_2 rfl) (rg_q (q_load sz3 rfl rfl) (rg_q (q_fieldAddr fld46_3 rfl) (rg_q (q_load sz3 rfl rfl) ?_)))
  refine rg_q (q_mul rfl rfl xi) ?_
  refine rg_q (q_m rfl) ?_
  refine rg_q (q_add rfl rfl xi) ?_
  refine rg_q (q_a rfl) ?_
  refine xc (awp_ret ?_)
  refine ⟨_, xk1, ?_⟩
  rw [hz]; rfl
 ·
  (try simp only [nb, ne_eq] at hc1)
  have hz : unfI m z = m.k * m.t + z := by unfold unfI; rw [if_neg (by simpa using hc1)]
  refine awp_skip ?_
  change Awp _ _ _ _ _
  refine awp_seq ?_
  refine xa 8 ?_
  refine rg_q (q_fieldAddr fld46_2 rfl) (rg_q (q_load sz3 rfl rfl) (rg_q (q_fieldAddr fld46_3 rfl) (rg_q (q_load sz3 rfl rfl) ?_)))
  refine rg_q (q_mul rfl rfl xi) ?_
  refine rg_q (q_m rfl) ?_
  refine rg_q (q_add rfl rfl xi) ?_
  refine rg_q (q_a rfl) ?_
  refine xc (awp_ret ?_)
  refine ⟨_, xk1, ?_⟩
  rw [hz]; rfl

def wayE (m : Md) (a b : Int × Int) : Int := firstE [spotE a, spotE b, mustI (decide (a.2 < 0)) 15, mustI (inR 1 b.2 (m.t - 1)) 22]
def crs0 : Crs := ⟨0, 0, 0, 0, 0, 0⟩
def wayI (m : Md) (a b : Int × Int) : Crs × Int := if wayE m a b ≠ 0 then (crs0, wayE m a b) else if 100000 < unfI m b.2 then (crs0, 8) else (⟨a.1, -a.2, m.w, b.1, unfI m b.2, m.m⟩, 0)
theorem wayE_ok {m : Md} {a b : Int × Int} (h : wayE m a b = 0) : ((-100000 ≤ a.1 ∧ a.1 ≤ 100000) ∧ -100000 ≤ a.2 ∧ a.2 ≤ 100000) ∧ ((-100000 ≤ b.1 ∧ b.1 ≤ 100000) ∧ -100000 ≤ b.2 ∧ b.2 ≤ 100000) ∧ a.2 < 0 ∧ 1 ≤ b.2 ∧ b.2 ≤ m.t - 1 := by
  unfold wayE at h
  rw [first_zero] at h
  simp only [List.mem_cons, List.not_mem_nil, or_false, forall_eq_or_imp, forall_eq, must_zero (show (15 : Int) ≠ 0 by omega), must_zero (show (22 : Int) ≠ 0 by omega), spot_ok, inR, Bool.and_eq_true, decide_eq_true_eq] at h
  obtain ⟨h1, h2, h3, h4⟩ := h
  exact ⟨h1, h2, h3, h4⟩
theorem unf_pos {m : Md} (hm : MdOk m) {z : Int} (h1 : 1 ≤ z) (h2 : z ≤ m.t - 1) : 1 ≤ unfI m z ∧ unfI m z ≤ 100000 := by
  obtain ⟨b1, b2⟩ := kt_bounds hm
  obtain ⟨w1, w2, m1, m2, k1, k2, t1, t2⟩ := hm
  unfold unfI
  split <;> omega
theorem way_law {m : Md} (hm : MdOk m) {a b : Int × Int} (h : wayE m a b = 0) : wayI m a b = (⟨a.1, -a.2, m.w, b.1, unfI m b.2, m.m⟩, 0) ∧ CrsOk (wayI m a b).1 := by
  obtain ⟨⟨h1, h2⟩, ⟨h3, h4⟩, h5, h6, h7⟩ := wayE_ok h
  have hu := unf_pos hm h6 h7
  have e : wayI m a b = (⟨a.1, -a.2, m.w, b.1, unfI m b.2, m.m⟩, 0) := by unfold wayI; rw [if_neg (by rw [h]; simp), if_neg (by omega)]
  obtain ⟨w1, w2, m1, m2, k1, k2, t1, t2⟩ := hm
  rw [e]
  exact ⟨rfl, ⟨by simp only; omega, by simp only; omega, by simp only; omega, by simp only; omega, by simp only; omega, by simp only; omega, by simp only; omega, by simp only; omega, w1, w2, m1, m2⟩⟩
theorem way_p (m : Md) (a b : Int × Int) (hm : MdOk m) : PC Tryz.prog 119 [.agg (mdC m), .agg (shC a), .agg (shC b)] (.tup [.agg (crsC ((wayI m a b).1)), .v (.int .i64 ((wayI m a b).2))]) := by
 have hm0 := hm
 obtain ⟨w1, w2, m1, m2, k1, k2, t1, t2⟩ := hm0
 refine pc_of_awp Tryz.func119 rfl Tryz.ntmps119 (rs := [.cell 6 209, .tmp 7]) Tryz.results119 (by simp) fun w0 => ?_
 refine awp_seq ?_
 refine xa 3 ?_
 refine rg_q (q_box rfl (by exact .inr ⟨_, rfl⟩)) ?_
 refine rg_q (q_box rfl (by exact .inr ⟨_, rfl⟩)) ?_
 refine rg_q (q_box rfl (by exact .inr ⟨_, rfl⟩)) ?_
 refine rg_nil ?_
 refine aops_alloc zr209 rfl rfl rfl ?_
 refine aops_q rfl (q_a rfl) ?_
 refine aops_nil (xq (xa 18 ?_))
 refine rg_q (q_loadA (ds := [_, _]) sz23 rfl rfl rfl) ?_
 refine rg_q (q_call en148 (.cons rfl .nil) rfl (rspotErr_p _)) ?_
 refine rg_q (q_loadA (ds := [_, _]) sz23 rfl rfl rfl) ?_
 refine rg_q (q_call en148 (.cons rfl .nil) rfl (rspotErr_p _)) ?_
 refine rg_q (q_fieldAddr fld23_1 rfl) (rg_q (q_load sz3 rfl rfl) (rg_q (q_lss rfl rfl) ?_))
 refine rg_q (q_call en145 (.cons rfl (.cons rfl .nil)) rfl (must_p _ _)) ?_
 refine rg_q (q_fieldAddr fld23_1 rfl) (rg_q (q_load sz3 rfl rfl) (rg_q (q_fieldAddr fld46_3 rfl) (rg_q (q_load sz3 rfl rfl) ?_)))
 refine rg_q (q_sub rfl rfl xi) ?_
 refine rg_q (q_call en146 (.cons rfl (.cons rfl (.cons rfl .nil))) rfl (rwithin_p _ _ _)) ?_
 refine rg_q (q_call en145 (.cons rfl (.cons rfl .nil)) rfl (must_p _ _)) ?_
 refine rg_q (q_buildSlice sl199 zr29 rfl rfl (by decide) (.cons rfl (by exact .inl rfl) (.cons rfl (by exact .inl rfl) (.cons rfl (by exact .inl rfl) (.cons rfl (by exact .inl rfl) .nil)))) ⟨rfl, rfl, rfl, rfl, rfl, rfl, rfl, rfl, trivial⟩ rfl (by decide) rfl) ?_
 refine rg_q (q_call en117 (.cons rfl .nil) rfl (rfirst_p [_, _, _, _])) ?_
 refine rg_q (q_a rfl) ?_
 refine rs (awp_seq ?_)
 refine xa 2 ?_
 refine rg_q (q_m rfl) (rg_q (q_neq rfl rfl) ?_)
 refine xc (awp_cond rfl (fun hc2 => ?_) (fun hc2 => ?_))
 ·
  (try simp only [nb, ne_eq] at hc2)
  have he : wayE m a b ≠ 0 := hc2
  have hz : wayI m a b = (crs0, wayE m a b) := by unfold wayI; rw [if_pos he]
  refine awp_seq ?_
  refine xa 2 ?_
  refine rg_q (q_build (cs := [_, _, _, _, _, _]) pl209 zr209 rfl .nil trivial rfl) ?_
  refine rg_q (q_m rfl) ?_
  refine rg_nil ?_
  refine aops_store sz209 rfl rfl (by exact .inr ⟨_, rfl⟩) rfl rfl (by decide) rfl ?_
  refine aops_q rfl (q_a rfl) ?_
  refine aops_nil ?_
  change Awp _ _ _ _ _
  refine awp_ret ?_
  refine ⟨_, (.cons (.cellA rfl rfl sz209 rfl) xk1), ?_⟩
  rw [hz]; rfl
 ·
  (try simp only [nb, ne_eq] at hc2)
  have he : wayE m a b = 0 := hc2
  obtain ⟨⟨g1, g2⟩, ⟨g3, g4⟩, g5, g6, g7⟩ := wayE_ok he
  have hz := (way_law hm he).1
  have hu := unf_pos hm g6 g7
  refine awp_skip ?_
  change Awp _ _ _ _ _
  refine awp_seq ?_
  refine xa 5 ?_
  refine rg_q (q_loadA (ds := [_, _, _, _]) sz46 rfl rfl rfl) ?_
  refine rg_q (q_fieldAddr fld23_1 rfl) (rg_q (q_load sz3 rfl rfl) ?_)
  refine rg_q (q_call en149 (.cons rfl (.cons rfl .nil)) rfl (unfolded_p _ _ hm (by omega) (by omega))) ?_
  refine rg_q (q_a rfl) ?_
  refine rs (awp_seq ?_)
  refine xa 2 ?_
  refine rg_q (q_m rfl) (rg_q (q_gtr rfl rfl) ?_)
  refine xc (awp_cond rfl (fun hc5 => ?_) (fun hc5 => ?_))
  ·
   exfalso; (try simp only [nb, ne_eq] at hc5); omega
  ·
   (try simp only [nb, ne_eq] at hc5)
   refine awp_skip ?_
   change Awp _ _ _ _ _
   refine awp_seq ?_
   refine xa 14 ?_
   refine rg_q (q_fieldAddr fld23_0 rfl) (rg_q (q_load sz3 rfl rfl) (rg_q (q_fieldAddr fld23_1 rfl) (rg_q (q_load sz3 rfl rfl) ?_)))
   refine rg_q (q_neg rfl xi) ?_
   refine rg_q (q_fieldAddr fld46_0 rfl) (rg_q (q_load sz3 rfl rfl) (rg_q (q_fieldAddr fld23_0 rfl) (rg_q (q_load sz3 rfl rfl) (rg_q (q_m rfl) (rg_q (q_fieldAddr fld46_1 rfl) ?_)))))
   refine rg_q (q_load sz3 rfl rfl) ?_
   refine rg_q (q_build (cs := [_, _, _, _, _, _]) pl207 zr207 rfl (.cons rfl (by exact .inl rfl) (.cons rfl (by exact .inl rfl) (.cons rfl (by exact .inl rfl) (.cons rfl (by exact .inl rfl) (.cons rfl (by exact .inl rfl) (.cons rfl (by exact .inl rfl) .nil)))))) ⟨⟨rfl, by decide⟩, ⟨rfl, by decide⟩, ⟨rfl, by decide⟩, ⟨rfl, by decide⟩, ⟨rfl, by decide⟩, ⟨rfl, by decide⟩, trivial⟩ rfl) ?_
   refine rg_q (q_build (cs := [_, _, _, _, _, _]) pl209 zr209 rfl (.cons rfl (by exact .inr ⟨_, rfl⟩) .nil) ⟨⟨rfl, by decide⟩, trivial⟩ rfl) ?_
   refine rg_nil ?_
   refine aops_store sz209 rfl rfl (by exact .inr ⟨_, rfl⟩) rfl rfl (by decide) rfl ?_
   refine aops_q rfl (q_a rfl) ?_
   refine aops_nil ?_
   change Awp _ _ _ _ _
   refine awp_ret ?_
   refine ⟨_, (.cons (.cellA rfl rfl sz209 rfl) xk1), ?_⟩
   rw [hz]; rfl

def opnI (m : Md) (a b : Int × Int) : Crs × Int := if modeE m ≠ 0 then (crs0, modeE m) else wayI m a b
theorem opn_ok {m : Md} {a b : Int × Int} (h : (opnI m a b).2 = 0) : MdOk m ∧ wayE m a b = 0 ∧ opnI m a b = wayI m a b := by
  unfold opnI at h ⊢
  by_cases h1 : modeE m ≠ 0
  · rw [if_pos h1] at h; exact absurd h h1
  · rw [if_neg h1] at h ⊢
    have hm := mode_ok.1 (Decidable.not_not.1 h1)
    refine ⟨hm, ?_, rfl⟩
    unfold wayI at h
    by_cases h2 : wayE m a b ≠ 0
    · rw [if_pos h2] at h; exact absurd h h2
    · exact Decidable.not_not.1 h2
theorem ropen_p (m : Md) (a b : Int × Int) : PC Tryz.prog 176 [.agg (mdC m), .agg (shC a), .agg (shC b)] (.tup [.agg (crsC ((opnI m a b).1)), .v (.int .i64 ((opnI m a b).2))]) := by
 refine pc_of_awp Tryz.func176 rfl Tryz.ntmps176 (rs := [.cell 6 209, .tmp 7]) Tryz.results176 (by simp) fun w0 => ?_
 refine awp_seq ?_
 refine xa 3 ?_
 refine rg_q (q_box rfl (by exact .inr ⟨_, rfl⟩)) ?_
 refine rg_q (q_box rfl (by exact .inr ⟨_, rfl⟩)) ?_
 refine rg_q (q_box rfl (by exact .inr ⟨_, rfl⟩)) ?_
 refine rg_nil ?_
 refine aops_alloc zr209 rfl rfl rfl ?_
 refine aops_q rfl (q_a rfl) ?_
 refine aops_nil (xq (awp_seq ?_))
 refine xa 3 ?_
 refine rg_q (q_loadA (ds := [_, _, _, _]) sz46 rfl rfl rfl) ?_
 refine rg_q (q_call en118 (.cons rfl .nil) rfl (checkMode_p _)) ?_
 refine rg_q (q_a rfl) ?_
 refine rs (xa 2 ?_)
 refine rg_q (q_m rfl) (rg_q (q_neq rfl rfl) ?_)
 refine xc (awp_cond rfl (fun hc2 => ?_) (fun hc2 => ?_))
 ·
  (try simp only [nb, ne_eq] at hc2)
  have hz : opnI m a b = (crs0, modeE m) := by unfold opnI; rw [if_pos hc2]
  refine awp_seq ?_
  refine xa 2 ?_
  refine rg_q (q_build (cs := [_, _, _, _, _, _]) pl209 zr209 rfl .nil trivial rfl) ?_
  refine rg_q (q_m rfl) ?_
  refine rg_nil ?_
  refine aops_store sz209 rfl rfl (by exact .inr ⟨_, rfl⟩) rfl rfl (by decide) rfl ?_
  refine aops_q rfl (q_a rfl) ?_
  refine aops_nil ?_
  change Awp _ _ _ _ _
  refine awp_ret ?_
  refine ⟨_, (.cons (.cellA rfl rfl sz209 rfl) xk1), ?_⟩
  rw [hz]; rfl
 ·
  (try simp only [nb, ne_eq] at hc2)
  have hm : MdOk m := mode_ok.1 (by simpa using hc2)
  have hz : opnI m a b = wayI m a b := by unfold opnI; rw [if_neg (by simpa using hc2)]
  refine awp_skip ?_
  change Awp _ _ _ _ _
  refine awp_seq ?_
  refine xa 6 ?_
  refine rg_q (q_loadA (ds := [_, _, _, _]) sz46 rfl rfl rfl) ?_
  refine rg_q (q_loadA (ds := [_, _]) sz23 rfl rfl rfl) ?_
  refine rg_q (q_loadA (ds := [_, _]) sz23 rfl rfl rfl) ?_
  refine rg_q (q_call en119 (.cons rfl (.cons rfl (.cons rfl .nil))) rfl (way_p _ _ _ hm)) ?_
  refine rg_q (q_extract rfl rfl) (rg_q (q_extract rfl rfl) ?_)
  refine rg_nil ?_
  refine aops_store sz209 rfl rfl (by exact .inr ⟨_, rfl⟩) rfl rfl (by decide) rfl ?_
  refine aops_q rfl (q_a rfl) ?_
  refine aops_nil ?_
  change Awp _ _ _ _ _
  refine awp_ret ?_
  refine ⟨_, (.cons (.cellA rfl rfl sz209 rfl) xk1), ?_⟩
  rw [hz]; rfl

def ltI (m : Md) (a b : Int × Int) : Rg × Int := if (opnI m a b).2 ≠ 0 then ((0, 0), (opnI m a b).2) else (leastI (opnI m a b).1, 0)
theorem lt_in (m : Md) (a b : Int × Int) : TimIn (ltI m a b).1 := by
  unfold ltI
  split
  · exact ⟨by simp, by simp, by simp, by simp⟩
  · rename_i h
    obtain ⟨hm, hw, e⟩ := opn_ok (Decidable.not_not.1 h)
    rw [e]
    exact least_in (way_law hm hw).2
def rtI (m : Md) (a b : Int × Int) : Int := ((ltI m a b).1.1 + (ltI m a b).1.2) / 2
theorem rt_in (m : Md) (a b : Int × Int) : 0 ≤ rtI m a b ∧ rtI m a b ≤ 20000000000 := by
  obtain ⟨h1, h2, h3, h4⟩ := lt_in m a b
  unfold rtI; omega
theorem leastTime_p (m : Md) (a b : Int × Int) : PC Tryz.prog 164 [.agg (mdC m), .agg (shC a), .agg (shC b)] (.tup [.agg [.v (.int .i64 (((ltI m a b).1).1)), .v (.int .i64 (((ltI m a b).1).2))], .v (.int .i64 ((ltI m a b).2))]) := by
 refine pc_of_awp Tryz.func164 rfl Tryz.ntmps164 (rs := [.cell 6 58, .tmp 7]) Tryz.results164 (by simp) fun w0 => ?_
 refine awp_seq ?_
 refine xa 3 ?_
 refine rg_q (q_box rfl (by exact .inr ⟨_, rfl⟩)) ?_
 refine rg_q (q_box rfl (by exact .inr ⟨_, rfl⟩)) ?_
 refine rg_q (q_box rfl (by exact .inr ⟨_, rfl⟩)) ?_
 refine rg_nil ?_
 refine aops_alloc zr58 rfl rfl rfl ?_
 refine aops_q rfl (q_a rfl) ?_
 refine aops_nil (xq (xa 7 ?_))
 refine rg_q (q_loadA (ds := [_, _, _, _]) sz46 rfl rfl rfl) ?_
 refine rg_q (q_loadA (ds := [_, _]) sz23 rfl rfl rfl) ?_
 refine rg_q (q_loadA (ds := [_, _]) sz23 rfl rfl rfl) ?_
 refine rg_q (q_call en176 (.cons rfl (.cons rfl (.cons rfl .nil))) rfl (ropen_p _ _ _)) ?_
 refine rg_q (q_move (x := .d (.tup _)) rfl) (rg_q (q_extract rfl rfl) (rg_q (q_extract rfl rfl) ?_))
 refine rg_nil ?_
 refine aops_alloc zr209 rfl rfl rfl ?_
 refine aops_store sz209 rfl rfl (by exact .inr ⟨_, rfl⟩) rfl rfl (by decide) rfl ?_
 refine aops_q rfl (q_a rfl) ?_
 refine aops_nil (xq (awp_seq ?_))
 refine xa 2 ?_
 refine rg_q (q_m rfl) (rg_q (q_neq rfl rfl) ?_)
 refine xc (awp_cond rfl (fun hc2 => ?_) (fun hc2 => ?_))
 ·
  (try simp only [nb, ne_eq] at hc2)
  have hz : ltI m a b = ((0, 0), (opnI m a b).2) := by unfold ltI; rw [if_pos hc2]
  refine awp_seq ?_
  refine xa 2 ?_
  refine rg_q (q_build (cs := [_, _]) pl58 zr58 rfl .nil trivial rfl) ?_
  refine rg_q (q_m rfl) ?_
  refine rg_nil ?_
  refine aops_store sz58 rfl rfl (by exact .inr ⟨_, rfl⟩) rfl rfl (by decide) rfl ?_
  refine aops_q rfl (q_a rfl) ?_
  refine aops_nil ?_
  change Awp _ _ _ _ _
  refine awp_ret ?_
  refine ⟨_, (.cons (.cellA rfl rfl sz58 rfl) xk1), ?_⟩
  rw [hz]; rfl
 ·
  (try simp only [nb, ne_eq] at hc2)
  have he : (opnI m a b).2 = 0 := by simpa using hc2
  obtain ⟨hm, hw, e⟩ := opn_ok he
  have hcx : CrsOk (opnI m a b).1 := by rw [e]; exact (way_law hm hw).2
  have hz : ltI m a b = (leastI (opnI m a b).1, 0) := by unfold ltI; rw [if_neg (by rw [he]; simp)]
  refine awp_skip ?_
  change Awp _ _ _ _ _
  refine awp_seq ?_
  refine xa 2 ?_
  refine rg_q (q_load_refA (ds := [_, _, _, _, _, _]) sz209 rfl rfl rfl rfl) ?_
  refine rg_q (q_call en121 (.cons rfl .nil) rfl (least_p _ hcx)) ?_
  refine rg_nil ?_
  refine aops_store sz58 rfl rfl (by exact .inr ⟨_, rfl⟩) rfl rfl (by decide) rfl ?_
  refine aops_q rfl (q_a rfl) ?_
  refine aops_nil ?_
  change Awp _ _ _ _ _
  refine awp_ret ?_
  refine ⟨_, (.cons (.cellA rfl rfl sz58 rfl) xk1), ?_⟩
  rw [hz]; rfl
theorem roundedTime_p (m : Md) (a b : Int × Int) : PC Tryz.prog 139 [.agg (mdC m), .agg (shC a), .agg (shC b)] (.tup [.v (.int .i64 (rtI m a b)), .v (.int .i64 ((ltI m a b).2))]) := by
 obtain ⟨h1, h2, h3, h4⟩ := lt_in m a b
 refine pc_of_awp Tryz.func139 rfl Tryz.ntmps139 (rs := [.tmp 6, .tmp 7]) Tryz.results139 (by simp) fun w0 => ?_
 refine awp_seq ?_
 refine xa 5 ?_
 refine rg_q (q_box rfl (by exact .inr ⟨_, rfl⟩)) ?_
 refine rg_q (q_box rfl (by exact .inr ⟨_, rfl⟩)) ?_
 refine rg_q (q_box rfl (by exact .inr ⟨_, rfl⟩)) ?_
 refine rg_q (q_a rfl) (rg_q (q_a rfl) ?_)
 refine rs (xa 7 ?_)
 refine rg_q (q_loadA (ds := [_, _, _, _]) sz46 rfl rfl rfl) ?_
 refine rg_q (q_loadA (ds := [_, _]) sz23 rfl rfl rfl) ?_
 refine rg_q (q_loadA (ds := [_, _]) sz23 rfl rfl rfl) ?_
 refine rg_q (q_call en164 (.cons rfl (.cons rfl (.cons rfl .nil))) rfl (leastTime_p _ _ _)) ?_
 refine rg_q (q_move (x := .d (.tup _)) rfl) (rg_q (q_extract rfl rfl) (rg_q (q_extract rfl rfl) ?_))
 refine rg_nil ?_
 refine aops_alloc zr58 rfl rfl rfl ?_
 refine aops_store sz58 rfl rfl (by exact .inr ⟨_, rfl⟩) rfl rfl (by decide) rfl ?_
 refine aops_q rfl (q_a rfl) ?_
 refine aops_nil (xq (xa 9 ?_))
 refine rg_q (q_fieldAddr_ref fld58_0 rfl) (rg_q (q_load_ref sz3 rfl rfl rfl) (rg_q (q_fieldAddr_ref fld58_1 rfl) (rg_q (q_load_ref sz3 rfl rfl rfl) ?_)))
 refine rg_q (q_add rfl rfl xi) ?_
 refine rg_q (q_call en165 (.cons rfl (.cons rfl .nil)) rfl (down_p _ _ ⟨by omega, by omega⟩ (by omega))) ?_
 refine rg_q (q_m rfl) (rg_q (q_a rfl) (rg_q (q_a rfl) ?_))
 refine xc (awp_ret ?_)
 refine ⟨_, xk2, ?_⟩
 rfl
end Go.Proofs.YtcdccdcbfbakfaaGreatDoor.Am.M
-- mini
set_option maxRecDepth 100000
namespace Go.Proofs.YtcdccdcbfbakfaaGreatDoor.Am.M
open Go
theorem twithin_p (n lo hi : Int) : PC Tryz.prog 161 [.v (.int .i64 (n)), .v (.int .i64 (lo)), .v (.int .i64 (hi))] (.v (.bool (inR lo n hi))) := by
 refine pc_of_awp Tryz.func161 rfl Tryz.ntmps161 (rs := [.tmp 6]) Tryz.results161 (by simp) fun w0 => ?_
 refine awp_seq ?_
 refine xa 1 ?_
 refine rg_q (q_a rfl) ?_
 refine rs (xa 9 ?_)
 refine rg_q (q_m rfl) (rg_q (q_m rfl) (rg_q (q_leq rfl rfl) (rg_q (q_m rfl) ?_)))
 refine rg_g rfl rfl (fun hG => (q_m rfl)) ?_
 refine rg_g rfl rfl (fun hG => (q_m rfl)) ?_
 refine rg_g rfl rfl (fun hG => (q_leq rfl rfl)) ?_
 refine rg_pick rfl rfl rfl rfl rfl rfl ?_
 refine rg_q (q_a rfl) ?_
 refine xc (awp_ret ?_)
 refine ⟨_, xk1, ?_⟩
 simp only [bif_and]; rfl
theorem bwithin_p (n lo hi : Int) : PC Tryz.prog 143 [.v (.int .i64 (n)), .v (.int .i64 (lo)), .v (.int .i64 (hi))] (.v (.bool (inR lo n hi))) := by
 refine pc_of_awp Tryz.func143 rfl Tryz.ntmps143 (rs := [.tmp 6]) Tryz.results143 (by simp) fun w0 => ?_
 refine awp_seq ?_
 refine xa 1 ?_
 refine rg_q (q_a rfl) ?_
 refine rs (xa 9 ?_)
 refine rg_q (q_m rfl) (rg_q (q_m rfl) (rg_q (q_leq rfl rfl) (rg_q (q_m rfl) ?_)))
 refine rg_g rfl rfl (fun hG => (q_m rfl)) ?_
 refine rg_g rfl rfl (fun hG => (q_m rfl)) ?_
 refine rg_g rfl rfl (fun hG => (q_leq rfl rfl)) ?_
 refine rg_pick rfl rfl rfl rfl rfl rfl ?_
 refine rg_q (q_a rfl) ?_
 refine xc (awp_ret ?_)
 refine ⟨_, xk1, ?_⟩
 simp only [bif_and]; rfl
theorem bsmall_p (n m : Int) (h1 : 0 ≤ m) (h2 : m ≤ 1000000000000) : PC Tryz.prog 142 [.v (.int .i64 (n)), .v (.int .i64 (m))] (.v (.bool (inR (-m) n m))) := by
 refine pc_of_awp Tryz.func142 rfl Tryz.ntmps142 (rs := [.tmp 4]) Tryz.results142 (by simp) fun w0 => ?_
 refine awp_seq ?_
 refine xa 1 ?_
 refine rg_q (q_a rfl) ?_
 refine rs (xa 6 ?_)
 refine rg_q (q_m rfl) (rg_q (q_m rfl) ?_)
 refine rg_q (q_neg rfl xi) ?_
 refine rg_q (q_m rfl) ?_
 refine rg_q (q_call en143 (.cons rfl (.cons rfl (.cons rfl .nil))) rfl (bwithin_p _ _ _)) ?_
 refine rg_q (q_a rfl) ?_
 refine xc (awp_ret ?_)
 refine ⟨_, xk1, ?_⟩
 rfl
theorem bfirst_p (l : List Int) : PC Tryz.prog 113 [.sl 1 (l.map iC)] (.v (.int .i64 (firstE l))) := by
 refine pc_of_awp Tryz.func113 rfl Tryz.ntmps113 (rs := [.tmp 2]) Tryz.results113 (by simp) fun w0 => ?_
 refine awp_seq ?_
 refine xa 1 ?_
 refine rg_q (q_a rfl) ?_
 refine rs (awp_seq ?_)
 refine xa 3 ?_
 refine rg_q (q_move (x := .d (.sl _ _)) rfl) ?_
 refine rg_q (q_len isl199 rfl (by exact len_map _ _)) ?_
 refine rg_q (q_m rfl) ?_
 refine xc (awp_len (t := 5) rfl (fun hl5 => ?_))
 (try simp only [List.length_map] at hl5)
 refine awp_block ?_
 refine awp_loopH [2, 4, 7, 8, 9, 10, 11, 12, 13, 14] [] (α := Nat) (fun k => [(7, T.i (k : Int))]) (fun k => []) (fun k => k ≤ l.length ∧ firstE l = firstE (l.drop k)) (fun k => l.length - k) 0 ⟨Nat.zero_le _, rfl⟩ ?_ ?_
 · exact xh (ms := []) (by repeat (exact Out.refl _)) ⟨(by rfl), trivial⟩ trivial
 ·
  intro k ⟨hk, hf⟩
  refine awp_seq ?_
  refine xa 1 ?_
  refine rg_q (q_lss rfl rfl) ?_
  refine rs (awp_cond rfl (fun hc2 => ?_) (fun hc2 => ?_))
  ·
   (try simp only [nb, ne_eq] at hc2)
   have hlt : k < l.length := by omega
   have hx := List.getElem?_eq_getElem hlt
   have hd : firstE (l.drop k) = if l[k] = 0 then firstE (l.drop (k + 1)) else l[k] := by rw [List.drop_eq_getElem_cons hlt]; rfl
   generalize l[k] = x at *
   refine awp_skip ?_
   change Awp _ _ _ _ _
   refine awp_seq ?_
   refine awp_block ?_
   refine awp_seq ?_
   refine xa 3 ?_
   refine rg_q (q_indexAddr sl199 rfl rfl (by omega) (map_at (by omega) hx)) ?_
   refine rg_q (q_load sz29 rfl rfl) (rg_q (q_a rfl) ?_)
   refine rs (xa 2 ?_)
   refine rg_q (q_m rfl) (rg_q (q_neq rfl rfl) ?_)
   refine xc (awp_cond rfl (fun hc4 => ?_) (fun hc4 => ?_))
   ·
    (try simp only [nb, ne_eq] at hc4)
    refine awp_seq ?_
    refine xa 2 ?_
    refine rg_q (q_m rfl) (rg_q (q_a rfl) ?_)
    refine xc (awp_ret ?_)
    refine ⟨_, xk1, ?_⟩
    rw [hf, hd, if_neg hc4]; rfl
   ·
    (try simp only [nb, ne_eq] at hc4)
    refine awp_skip ?_
    change Awp _ _ _ _ _
    refine xa 2 ?_
    refine rg_q (q_add rfl rfl xi) ?_
    refine rg_q (q_m rfl) ?_
    refine rn ?_
    refine ⟨k + 1, ⟨by omega, by rw [hf, hd, if_pos hc4]⟩, by omega, ?_⟩
    exact xh (ms := []) (by repeat (first | exact Out.head rfl rfl | (refine Out.put ?_ rfl))) ⟨(by rfl), trivial⟩ trivial
  ·
   (try simp only [nb, ne_eq] at hc2)
   refine awp_exit ?_
   change Awp _ _ _ _ _
   refine awp_seq ?_
   refine xa 1 ?_
   refine rg_q (q_a rfl) ?_
   refine xc (awp_ret ?_)
   refine ⟨_, xk1, ?_⟩
   rw [hf, List.drop_of_length_le (by omega)]; rfl

def whenI (b : Bool) (e : Int) : Int := if b = true then e else 0
theorem when_must (b : Bool) (e : Int) : whenI (!b) e = mustI b e := by cases b <;> rfl
theorem when_zero {b : Bool} {e : Int} (he : e ≠ 0) : whenI b e = 0 ↔ b = false := by unfold whenI; cases b <;> simp_all
theorem when_p (b : Bool) (e : Int) : PC Tryz.prog 140 [.v (.bool (b)), .v (.int .i64 (e))] (.v (.int .i64 (whenI b e))) := by
 refine pc_of_awp Tryz.func140 rfl Tryz.ntmps140 (rs := [.tmp 4]) Tryz.results140 (by simp) fun w0 => ?_
 refine awp_seq ?_
 refine xa 1 ?_
 refine rg_q (q_a rfl) ?_
 refine rs (awp_seq ?_)
 refine xa 1 ?_
 refine rg_q (q_m rfl) ?_
 refine xc (awp_cond rfl (fun hc1 => ?_) (fun hc1 => ?_))
 ·
  (try simp only [nb, ne_eq] at hc1)
  have hz : whenI b e = e := by unfold whenI; rw [if_pos hc1]
  refine awp_seq ?_
  refine xa 2 ?_
  refine rg_q (q_m rfl) (rg_q (q_a rfl) ?_)
  refine xc (awp_ret ?_)
  refine ⟨_, xk1, ?_⟩
  rw [hz]; rfl
 ·
  (try simp only [nb, ne_eq] at hc1)
  have hz : whenI b e = 0 := by unfold whenI; rw [if_neg (by simpa using hc1)]
  refine awp_skip ?_
  change Awp _ _ _ _ _
  refine awp_seq ?_
  refine xa 1 ?_
  refine rg_q (q_a rfl) ?_
  refine xc (awp_ret ?_)
  refine ⟨_, xk1, ?_⟩
  rw [hz]; rfl

theorem not_and_or (a b : Bool) : ((!a) || !b) = !(a && b) := by cases a <;> cases b <;> rfl
theorem bspotErr_p (p : Int × Int) : PC Tryz.prog 114 [.agg (shC p)] (.v (.int .i64 (spotE p))) := by
 refine pc_of_awp Tryz.func114 rfl Tryz.ntmps114 (rs := [.tmp 2]) Tryz.results114 (by simp) fun w0 => ?_
 refine awp_seq ?_
 refine xa 2 ?_
 refine rg_q (q_box rfl (by exact .inr ⟨_, rfl⟩)) ?_
 refine rg_q (q_a rfl) ?_
 refine rs (xa 12 ?_)
 refine rg_q (q_fieldAddr fld23_0 rfl) (rg_q (q_load sz3 rfl rfl) ?_)
 refine rg_q (q_call en142 (.cons rfl (.cons rfl .nil)) rfl (bsmall_p _ _ (by omega) (by omega))) ?_
 refine rg_q (q_not rfl) (rg_q (q_m rfl) ?_)
 refine rg_g rfl rfl (fun hG => (q_fieldAddr fld23_1 rfl)) ?_
 refine rg_g rfl rfl (fun hG => (q_load sz3 rfl rfl)) ?_
 refine rg_g rfl rfl (fun hG => (q_call en142 (.cons rfl (.cons rfl .nil)) rfl (bsmall_p _ _ (by omega) (by omega)))) ?_
 refine rg_g rfl rfl (fun hG => (q_not rfl)) ?_
 refine rg_pick rfl rfl rfl rfl rfl rfl ?_
 refine rg_q (q_call en140 (.cons rfl (.cons rfl .nil)) rfl (when_p _ _)) ?_
 refine rg_q (q_a rfl) ?_
 refine xc (awp_ret ?_)
 refine ⟨_, xk1, ?_⟩
 unfold spotE spotB; rw [← when_must]; simp only [bif_and, bif_or, ← not_and_or]; rfl

def plateE (z t : Int) : Int := mustI (inR 1 z (t - 1)) 22
def sampE (s : Int × Int) : Int := if (inR 0 s.1 1000000000000 && inR 1 s.2 100000000) = true then 0 else 2
theorem plateErr_p (p : Int × Int) (t : Int) (h1 : 2 ≤ t) (h2 : t ≤ 20000) : PC Tryz.prog 115 [.agg (shC p), .v (.int .i64 (t))] (.v (.int .i64 (plateE p.2 t))) := by
 refine pc_of_awp Tryz.func115 rfl Tryz.ntmps115 (rs := [.tmp 4]) Tryz.results115 (by simp) fun w0 => ?_
 refine awp_seq ?_
 refine xa 2 ?_
 refine rg_q (q_box rfl (by exact .inr ⟨_, rfl⟩)) ?_
 refine rg_q (q_a rfl) ?_
 refine rs (xa 8 ?_)
 refine rg_q (q_fieldAddr fld23_1 rfl) (rg_q (q_load sz3 rfl rfl) (rg_q (q_m rfl) ?_))
 refine rg_q (q_sub rfl rfl xi) ?_
 refine rg_q (q_call en143 (.cons rfl (.cons rfl (.cons rfl .nil))) rfl (bwithin_p _ _ _)) ?_
 refine rg_q (q_not rfl) ?_
 refine rg_q (q_call en140 (.cons rfl (.cons rfl .nil)) rfl (when_p _ _)) ?_
 refine rg_q (q_a rfl) ?_
 refine xc (awp_ret ?_)
 refine ⟨_, xk1, ?_⟩
 unfold plateE; rw [← when_must]; rfl
theorem checkSampling_p (s : Int × Int) : PC Tryz.prog 141 [.agg (shC s)] (.v (.int .i64 (sampE s))) := by
 refine pc_of_awp Tryz.func141 rfl Tryz.ntmps141 (rs := [.tmp 2]) Tryz.results141 (by simp) fun w0 => ?_
 refine awp_seq ?_
 refine xa 2 ?_
 refine rg_q (q_box rfl (by exact .inr ⟨_, rfl⟩)) ?_
 refine rg_q (q_a rfl) ?_
 refine rs (awp_seq ?_)
 refine xa 10 ?_
 refine rg_q (q_fieldAddr fld48_0 rfl) (rg_q (q_load sz3 rfl rfl) ?_)
 refine rg_q (q_call en161 (.cons rfl (.cons rfl (.cons rfl .nil))) rfl (twithin_p _ _ _)) ?_
 refine rg_q (q_not rfl) (rg_q (q_m rfl) ?_)
 refine rg_g rfl rfl (fun hG => (q_fieldAddr fld48_1 rfl)) ?_
 refine rg_g rfl rfl (fun hG => (q_load sz3 rfl rfl)) ?_
 refine rg_g rfl rfl (fun hG => (q_call en161 (.cons rfl (.cons rfl (.cons rfl .nil))) rfl (twithin_p _ _ _))) ?_
 refine rg_g rfl rfl (fun hG => (q_not rfl)) ?_
 refine rg_pick rfl rfl rfl rfl rfl rfl ?_
 refine xc (awp_cond rfl (fun hc1 => ?_) (fun hc1 => ?_))
 ·
  (try simp only [nb, ne_eq] at hc1)
  have hz : sampE s = 2 := by unfold sampE; rw [if_neg (by intro h; simp_all)]
  refine awp_seq ?_
  refine xa 1 ?_
  refine rg_q (q_a rfl) ?_
  refine xc (awp_ret ?_)
  refine ⟨_, xk1, ?_⟩
  rw [hz]; rfl
 ·
  (try simp only [nb, ne_eq] at hc1)
  have hz : sampE s = 0 := by unfold sampE; rw [if_pos (by simp_all)]
  refine awp_skip ?_
  change Awp _ _ _ _ _
  refine awp_seq ?_
  refine xa 1 ?_
  refine rg_q (q_a rfl) ?_
  refine xc (awp_ret ?_)
  refine ⟨_, xk1, ?_⟩
  rw [hz]; rfl

def rndI (n b : Int) : Int := (2 * n + b) / (2 * b)

structure Arr where
  el : List (Int × Int)
  ou : Md
  ba : Md
  ts : Int × Int
def arrC (a : Arr) : List D := [.sl 2 (a.el.map shC), .v (.int .i64 a.ou.w), .v (.int .i64 a.ou.m), .v (.int .i64 a.ou.k), .v (.int .i64 a.ou.t), .v (.int .i64 a.ba.w), .v (.int .i64 a.ba.m), .v (.int .i64 a.ba.k), .v (.int .i64 a.ba.t), .v (.int .i64 a.ts.1), .v (.int .i64 a.ts.2)]
def elE (p : Int × Int) : Int := firstE [spotE p, whenI (decide (0 ≤ p.2)) 15]
def ckEls : Nat → List (Int × Int) → Int × Int
  | _, [] => (0, 0)
  | i, p :: ps => if elE p ≠ 0 then (i, elE p) else ckEls (i + 1) ps
def arrE0 (a : Arr) : Int := firstE [modeE a.ou, modeE a.ba, whenI (decide (a.ou.t ≠ a.ba.t)) 23, sampE a.ts]
def ckArr (a : Arr) : Int × Int := if a.el.length = 0 then (0, 10) else if 16 < a.el.length then (0, 8) else if (ckEls 0 a.el).2 ≠ 0 then ckEls 0 a.el else (0, arrE0 a)
theorem ckEls_at {l : List (Int × Int)} {k : Nat} {x : Int × Int} (hx : l[k]? = some x) : ckEls k (l.drop k) = if elE x ≠ 0 then ((k : Int), elE x) else ckEls (k + 1) (l.drop (k + 1)) := by
  obtain ⟨hlt, rfl⟩ := List.getElem?_eq_some_iff.1 hx
  rw [List.drop_eq_getElem_cons hlt]; rfl
theorem ckEls_ok : ∀ {l : List (Int × Int)} {i : Nat}, (ckEls i l).2 = 0 → ∀ p ∈ l, elE p = 0
  | [], _, _, p, hp => by cases hp
  | q :: l, i, h, p, hp => by
    unfold ckEls at h
    by_cases h1 : elE q ≠ 0
    · rw [if_pos h1] at h; exact absurd h h1
    · rw [if_neg h1] at h
      rcases List.mem_cons.1 hp with rfl | hp
      · exact Decidable.not_not.1 h1
      · exact ckEls_ok h p hp
structure ArrOk (a : Arr) : Prop where
  n1 : 1 ≤ a.el.length
  n2 : a.el.length ≤ 16
  el : ∀ p ∈ a.el, (-100000 ≤ p.1 ∧ p.1 ≤ 100000) ∧ -100000 ≤ p.2 ∧ p.2 < 0
  ou : MdOk a.ou
  ba : MdOk a.ba
  th : a.ou.t = a.ba.t
  t1 : 0 ≤ a.ts.1
  t2 : a.ts.1 ≤ 1000000000000
  t3 : 1 ≤ a.ts.2
  t4 : a.ts.2 ≤ 100000000
theorem elE_ok {p : Int × Int} (h : elE p = 0) : (-100000 ≤ p.1 ∧ p.1 ≤ 100000) ∧ -100000 ≤ p.2 ∧ p.2 < 0 := by
  unfold elE at h
  rw [first_zero] at h
  simp only [List.mem_cons, List.not_mem_nil, or_false, forall_eq_or_imp, forall_eq, spot_ok, when_zero (show (15 : Int) ≠ 0 by omega), decide_eq_false_iff_not] at h
  omega
theorem ckArr_ok {a : Arr} (h : (ckArr a).2 = 0) : ArrOk a ∧ ckArr a = (0, 0) := by
  unfold ckArr at h ⊢
  by_cases h1 : a.el.length = 0
  · rw [if_pos h1] at h; simp at h
  by_cases h2 : 16 < a.el.length
  · rw [if_neg h1, if_pos h2] at h; simp at h
  by_cases h3 : (ckEls 0 a.el).2 ≠ 0
  · rw [if_neg h1, if_neg h2, if_pos h3] at h; exact absurd h h3
  rw [if_neg h1, if_neg h2, if_neg h3] at h ⊢
  simp only at h
  have h4 := h
  unfold arrE0 at h4
  rw [first_zero] at h4
  simp only [List.mem_cons, List.not_mem_nil, or_false, forall_eq_or_imp, forall_eq, mode_ok, when_zero (show (23 : Int) ≠ 0 by omega), decide_eq_false_iff_not, Decidable.not_not] at h4
  obtain ⟨k1, k2, k3, k4⟩ := h4
  have k5 : inR 0 a.ts.1 1000000000000 && inR 1 a.ts.2 100000000 := by
    unfold sampE at k4
    split at k4
    · assumption
    · cases k4
  simp [inR] at k5
  refine ⟨⟨by omega, by omega, fun p hp => elE_ok (ckEls_ok (Decidable.not_not.1 h3) p hp), k1, k2, k3, k5.1.1, k5.1.2, k5.2.1, k5.2.2⟩, by rw [h]⟩
theorem checkArray_p (a : Arr) : PC Tryz.prog 112 [.agg (arrC a)] (.tup [.v (.int .i64 ((ckArr a).1)), .v (.int .i64 ((ckArr a).2))]) := by
 refine pc_of_awp Tryz.func112 rfl Tryz.ntmps112 (rs := [.tmp 2, .tmp 3]) Tryz.results112 (by simp) fun w0 => ?_
 refine awp_seq ?_
 refine xa 3 ?_
 refine rg_q (q_box rfl (by exact .inr ⟨_, rfl⟩)) ?_
 refine rg_q (q_a rfl) (rg_q (q_a rfl) ?_)
 refine rs (awp_block ?_)
 refine awp_seq ?_
 refine xa 5 ?_
 refine rg_q (q_fieldAddr fld50_0 rfl) (rg_q (q_load sz44 rfl rfl) ?_)
 refine rg_q (q_len isl44 rfl (by exact len_map _ _)) ?_
 refine rg_q (q_eql rfl rfl) (rg_q (q_a rfl) ?_)
 refine xc (awp_len (t := 9) rfl (fun hl9 => ?_))
 (try simp only [List.length_map] at hl9)
 refine awp_cond rfl (fun hc1 => ?_) (fun hc1 => ?_)
 ·
  (try simp only [nb, ne_eq] at hc1)
  have hz : ckArr a = (0, 10) := by unfold ckArr; rw [if_pos (by omega)]
  refine awp_seq ?_
  refine xa 2 ?_
  refine rg_q (q_a rfl) (rg_q (q_a rfl) ?_)
  refine xc (awp_ret ?_)
  refine ⟨_, xk2, ?_⟩
  rw [hz]; rfl
 ·
  (try simp only [nb, ne_eq] at hc1)
  refine awp_seq ?_
  refine xa 5 ?_
  refine rg_q (q_fieldAddr fld50_0 rfl) (rg_q (q_load sz44 rfl rfl) ?_)
  refine rg_q (q_len isl44 rfl (by exact len_map _ _)) ?_
  refine rg_q (q_gtr rfl rfl) (rg_q (q_a rfl) ?_)
  refine xc (awp_len (t := 14) rfl (fun hl14 => ?_))
  (try simp only [List.length_map] at hl14)
  refine awp_cond rfl (fun hc3 => ?_) (fun hc3 => ?_)
  ·
   (try simp only [nb, ne_eq] at hc3)
   have hz : ckArr a = (0, 8) := by unfold ckArr; rw [if_neg (by omega), if_pos (by omega)]
   refine awp_seq ?_
   refine xa 2 ?_
   refine rg_q (q_a rfl) (rg_q (q_a rfl) ?_)
   refine xc (awp_ret ?_)
   refine ⟨_, xk2, ?_⟩
   rw [hz]; rfl
  ·
   (try simp only [nb, ne_eq] at hc3)
   have hz : ckArr a = if (ckEls 0 a.el).2 ≠ 0 then ckEls 0 a.el else (0, arrE0 a) := by unfold ckArr; rw [if_neg (by omega), if_neg (by omega)]
   refine awp_skip ?_
   change Awp _ _ _ _ _
   refine awp_seq ?_
   refine awp_seq ?_
   refine xa 4 ?_
   refine rg_q (q_fieldAddr fld50_0 rfl) (rg_q (q_load sz44 rfl rfl) ?_)
   refine rg_q (q_len isl44 rfl (by exact len_map _ _)) ?_
   refine rg_q (q_m rfl) ?_
   refine xc (awp_len (t := 18) rfl (fun hl18 => ?_))
   (try simp only [List.length_map] at hl18)
   refine awp_block ?_
   refine awp_loopH [2, 3, 4, 5, 6, 20, 21, 22, 23, 24, 25, 26, 27, 28, 29, 30, 31, 32, 33, 34, 35, 36, 37] [] (α := Nat) (fun k => [(20, T.i (k : Int))]) (fun k => []) (fun k => k ≤ a.el.length ∧ ckEls 0 a.el = ckEls k (a.el.drop k)) (fun k => a.el.length - k) 0 ⟨Nat.zero_le _, rfl⟩ ?_ ?_
   · exact xh (ms := []) (by repeat (exact Out.refl _)) ⟨(by rfl), trivial⟩ trivial
   ·
    intro k ⟨hk, hf⟩
    refine awp_seq ?_
    refine xa 1 ?_
    refine rg_q (q_lss rfl rfl) ?_
    refine rs (awp_cond rfl (fun hc6 => ?_) (fun hc6 => ?_))
    ·
     (try simp only [nb, ne_eq] at hc6)
     have hlt : k < a.el.length := by omega
     obtain ⟨x, hx⟩ : ∃ x, a.el[k]? = some x := ⟨_, List.getElem?_eq_getElem hlt⟩
     have hd := ckEls_at hx
     refine awp_skip ?_
     change Awp _ _ _ _ _
     refine awp_seq ?_
     refine awp_block ?_
     refine awp_seq ?_
     refine xa 3 ?_
     refine rg_q (q_m rfl) ?_
     refine rg_q (q_indexAddr sl44 rfl rfl (by omega) (map_at (by omega) hx)) ?_
     refine rg_q (q_loadA (ds := [_, _]) sz23 rfl rfl rfl) ?_
     refine rg_nil ?_
     refine aops_alloc zr23 rfl rfl rfl ?_
     refine aops_q rfl (q_a rfl) ?_
     refine aops_store sz23 rfl rfl (by exact .inr ⟨_, rfl⟩) rfl rfl (by decide) rfl ?_
     refine aops_nil (xq (xa 9 ?_))
     refine rg_q (q_load_refA (ds := [_, _]) sz23 rfl rfl rfl rfl) ?_
     refine rg_q (q_call en114 (.cons rfl .nil) rfl (bspotErr_p _)) ?_
     refine rg_q (q_fieldAddr_ref fld23_1 rfl) (rg_q (q_load_ref sz3 rfl rfl rfl) (rg_q (q_geq rfl rfl) ?_))
     refine rg_q (q_call en140 (.cons rfl (.cons rfl .nil)) rfl (when_p _ _)) ?_
     refine rg_q (q_buildSlice sl199 zr29 rfl rfl (by decide) (.cons rfl (by exact .inl rfl) (.cons rfl (by exact .inl rfl) .nil)) ⟨rfl, rfl, rfl, rfl, trivial⟩ rfl (by decide) rfl) ?_
     refine rg_q (q_call en113 (.cons rfl .nil) rfl (bfirst_p [_, _])) ?_
     refine rg_q (q_a rfl) ?_
     refine rs (xa 2 ?_)
     refine rg_q (q_m rfl) (rg_q (q_neq rfl rfl) ?_)
     refine xc (awp_cond rfl (fun hc9 => ?_) (fun hc9 => ?_))
     ·
      (try simp only [nb, ne_eq] at hc9)
      have hb : elE x ≠ 0 := hc9
      have hz2 : ckEls 0 a.el = ((k : Int), elE x) := by rw [hf, hd, if_pos hb]
      refine awp_seq ?_
      refine xa 4 ?_
      refine rg_q (q_m rfl) (rg_q (q_m rfl) (rg_q (q_a rfl) (rg_q (q_a rfl) ?_)))
      refine xc (awp_ret ?_)
      refine ⟨_, xk2, ?_⟩
      rw [hz, hz2, if_pos hb]; rfl
     ·
      (try simp only [nb, ne_eq] at hc9)
      have hb : elE x = 0 := hc9
      refine awp_skip ?_
      change Awp _ _ _ _ _
      refine xa 2 ?_
      refine rg_q (q_add rfl rfl xi) ?_
      refine rg_q (q_m rfl) ?_
      refine rn ?_
      refine ⟨k + 1, ⟨by omega, by rw [hf, hd, if_neg (by rw [hb]; simp)]⟩, by omega, ?_⟩
      exact xh (ms := []) (by repeat (first | exact Out.head rfl rfl | (refine Out.put ?_ rfl) | (refine Out.site ?_ rfl))) ⟨(by rfl), trivial⟩ trivial
    ·
     (try simp only [nb, ne_eq] at hc6)
     have hk0 : ckEls 0 a.el = (0, 0) := by rw [hf, List.drop_of_length_le (by omega)]; rfl
     refine awp_exit ?_
     change Awp _ _ _ _ _
     refine awp_seq ?_
     refine xa 21 ?_
     refine rg_q (q_fieldAddr fld50_1 rfl) ?_
     refine rg_q (q_loadA (ds := [_, _, _, _]) sz46 rfl rfl rfl) ?_
     refine rg_q (q_call en118 (.cons rfl .nil) rfl (checkMode_p a.ou)) ?_
     refine rg_q (q_fieldAddr fld50_2 rfl) ?_
     refine rg_q (q_loadA (ds := [_, _, _, _]) sz46 rfl rfl rfl) ?_
     refine rg_q (q_call en118 (.cons rfl .nil) rfl (checkMode_p a.ba)) ?_
     refine rg_q (q_fieldAddr fld50_1 rfl) (rg_q (q_fieldAddr fld46_3 rfl) (rg_q (q_load sz3 rfl rfl) (rg_q (q_fieldAddr fld50_2 rfl) (rg_q (q_fieldAddr fld46_3 rfl) (rg_q (q_load sz3 rfl rfl) ?_)))))
     refine rg_q (q_neq rfl rfl) ?_
     refine rg_q (q_call en140 (.cons rfl (.cons rfl .nil)) rfl (when_p _ _)) ?_
     refine rg_q (q_fieldAddr fld50_3 rfl) ?_
     refine rg_q (q_loadA (ds := [_, _]) sz48 rfl rfl rfl) ?_
     refine rg_q (q_call en141 (.cons rfl .nil) rfl (checkSampling_p a.ts)) ?_
     refine rg_q (q_buildSlice sl199 zr29 rfl rfl (by decide) (.cons rfl (by exact .inl rfl) (.cons rfl (by exact .inl rfl) (.cons rfl (by exact .inl rfl) (.cons rfl (by exact .inl rfl) .nil)))) ⟨rfl, rfl, rfl, rfl, rfl, rfl, rfl, rfl, trivial⟩ rfl (by decide) rfl) ?_
     refine rg_q (q_call en113 (.cons rfl .nil) rfl (bfirst_p [_, _, _, _])) ?_
     refine rg_q (q_a rfl) (rg_q (q_a rfl) ?_)
     refine xc (awp_ret ?_)
     refine ⟨_, xk2, ?_⟩
     rw [hz, hk0, if_neg (by simp)]; rfl

def pairE (n : Nat) (p : Int × Int) : Int := whenI (!inR 0 p.1 ((n : Int) - 1) || !inR 0 p.2 ((n : Int) - 1)) 6
theorem pair_ok {n : Nat} {p : Int × Int} (h : pairE n p = 0) : (0 ≤ p.1 ∧ p.1 < n) ∧ 0 ≤ p.2 ∧ p.2 < n := by
  unfold pairE at h
  rw [when_zero (by omega)] at h
  simp [inR] at h
  omega
theorem pairErr_p (a : Arr) (p : Int × Int) (hl : a.el.length ≤ 1000) : PC Tryz.prog 116 [.agg (arrC a), .agg (shC p)] (.v (.int .i64 (pairE a.el.length p))) := by
 refine pc_of_awp Tryz.func116 rfl Tryz.ntmps116 (rs := [.tmp 4]) Tryz.results116 (by simp) fun w0 => ?_
 refine awp_seq ?_
 refine xa 3 ?_
 refine rg_q (q_box rfl (by exact .inr ⟨_, rfl⟩)) ?_
 refine rg_q (q_box rfl (by exact .inr ⟨_, rfl⟩)) ?_
 refine rg_q (q_a rfl) ?_
 refine rs (xa 6 ?_)
 refine rg_q (q_fieldAddr fld171_0 rfl) (rg_q (q_fieldAddr fld50_0 rfl) (rg_q (q_load sz44 rfl rfl) ?_))
 refine rg_q (q_len isl44 rfl (by exact len_map _ _)) ?_
 refine rg_q (q_sub rfl rfl xi) ?_
 refine rg_q (q_a rfl) ?_
 refine xc (awp_len (t := 8) rfl (fun hl8 => ?_))
 (try simp only [List.length_map] at hl8)
 refine awp_seq ?_
 refine xa 14 ?_
 refine rg_q (q_indexAddr_ar ar106 rfl rfl (by omega) (by omega)) ?_
 refine rg_q (q_load sz3 rfl rfl) (rg_q (q_m rfl) ?_)
 refine rg_q (q_call en143 (.cons rfl (.cons rfl (.cons rfl .nil))) rfl (bwithin_p _ _ _)) ?_
 refine rg_q (q_not rfl) (rg_q (q_m rfl) ?_)
 refine rg_g rfl rfl (fun hG => (q_indexAddr_ar ar106 rfl rfl (by (have hg0 := T.bool_inj (a := _) hG.1; (try simp only [nb, ne_eq] at hg0); omega)) (by (have hg0 := T.bool_inj (a := _) hG.1; (try simp only [nb, ne_eq] at hg0); omega)))) ?_
 refine rg_g rfl rfl (fun hG => (q_load sz3 rfl rfl)) ?_
 refine rg_g rfl rfl (fun hG => (q_m rfl)) ?_
 refine rg_g rfl rfl (fun hG => (q_call en143 (.cons rfl (.cons rfl (.cons rfl .nil))) rfl (bwithin_p _ _ _))) ?_
 refine rg_g rfl rfl (fun hG => (q_not rfl)) ?_
 refine rg_pick rfl rfl rfl rfl rfl rfl ?_
 refine rg_q (q_call en140 (.cons rfl (.cons rfl .nil)) rfl (when_p _ _)) ?_
 refine rg_q (q_a rfl) ?_
 refine xc (awp_ret ?_)
 refine ⟨_, xk1, ?_⟩
 unfold pairE; simp only [bif_or]; rfl

def elAt (a : Arr) (i : Int) : Int × Int := a.el.getD i.toNat (0, 0)
def echI (a : Arr) (at_ p : Int × Int) : Int := rtI a.ou (elAt a p.1) at_ + rtI a.ba (elAt a p.2) at_
theorem el_at {a : Arr} {i : Int} (h1 : 0 ≤ i) (h2 : i < a.el.length) : a.el[i.toNat]? = some (elAt a i) := by
  unfold elAt
  rw [List.getD_eq_getElem?_getD, List.getElem?_eq_getElem (by omega)]; rfl
theorem ech_in (a : Arr) (at_ p : Int × Int) : 0 ≤ echI a at_ p ∧ echI a at_ p ≤ 40000000000 := by
  have h1 := rt_in a.ou (elAt a p.1) at_
  have h2 := rt_in a.ba (elAt a p.2) at_
  unfold echI; omega
theorem echo_p (a : Arr) (t p : Int × Int) (hp : (0 ≤ p.1 ∧ p.1 < a.el.length) ∧ 0 ≤ p.2 ∧ p.2 < a.el.length) : PC Tryz.prog 111 [.agg (arrC a), .agg (shC t), .agg (shC p)] (.v (.int .i64 (echI a t p))) := by
 obtain ⟨⟨p1, p2⟩, p3, p4⟩ := hp
 have hx := el_at p1 p2
 have hy := el_at p3 p4
 have r1 := rt_in a.ou (elAt a p.1) t
 have r2 := rt_in a.ba (elAt a p.2) t
 have e1 : ((p.1.toNat : Nat) : Int) = p.1 := by omega
 have e2 : ((p.2.toNat : Nat) : Int) = p.2 := by omega
 refine pc_of_awp Tryz.func111 rfl Tryz.ntmps111 (rs := [.tmp 6]) Tryz.results111 (by simp) fun w0 => ?_
 refine awp_seq ?_
 refine xa 4 ?_
 refine rg_q (q_box rfl (by exact .inr ⟨_, rfl⟩)) ?_
 refine rg_q (q_box rfl (by exact .inr ⟨_, rfl⟩)) ?_
 refine rg_q (q_box rfl (by exact .inr ⟨_, rfl⟩)) ?_
 refine rg_q (q_a rfl) ?_
 refine rs (xa 17 ?_)
 refine rg_q (q_fieldAddr fld171_0 rfl) (rg_q (q_fieldAddr fld50_1 rfl) ?_)
 refine rg_q (q_loadA (ds := [_, _, _, _]) sz46 rfl rfl rfl) ?_
 refine rg_q (q_fieldAddr fld171_0 rfl) (rg_q (q_fieldAddr fld50_0 rfl) (rg_q (q_load sz44 rfl rfl) ?_))
 refine rg_q (q_indexAddr_ar ar106 rfl rfl (by omega) (by omega)) ?_
 refine rg_q (q_load sz3 rfl rfl) ?_
 refine rg_q (q_indexAddr sl44 rfl rfl (by omega) (map_at (k := p.1.toNat) (by omega) hx)) ?_
 refine rg_q (q_loadA (ds := [_, _]) sz23 rfl rfl rfl) ?_
 refine rg_q (q_loadA (ds := [_, _]) sz23 rfl rfl rfl) ?_
 refine rg_q (q_call en139 (.cons rfl (.cons rfl (.cons rfl .nil))) rfl (roundedTime_p a.ou (elAt a p.1) t)) ?_
 refine rg_q (q_move (x := .d (.tup _)) rfl) (rg_q (q_extract rfl rfl) (rg_q (q_extract rfl rfl) (rg_q (q_a rfl) (rg_q (q_a rfl) ?_))))
 refine rs (xa 17 ?_)
 refine rg_q (q_fieldAddr fld171_0 rfl) (rg_q (q_fieldAddr fld50_2 rfl) ?_)
 refine rg_q (q_loadA (ds := [_, _, _, _]) sz46 rfl rfl rfl) ?_
 refine rg_q (q_fieldAddr fld171_0 rfl) (rg_q (q_fieldAddr fld50_0 rfl) (rg_q (q_load sz44 rfl rfl) ?_))
 refine rg_q (q_indexAddr_ar ar106 rfl rfl (by omega) (by omega)) ?_
 refine rg_q (q_load sz3 rfl rfl) ?_
 refine rg_q (q_indexAddr sl44 rfl rfl (by omega) (map_at (k := p.2.toNat) (by omega) hy)) ?_
 refine rg_q (q_loadA (ds := [_, _]) sz23 rfl rfl rfl) ?_
 refine rg_q (q_loadA (ds := [_, _]) sz23 rfl rfl rfl) ?_
 refine rg_q (q_call en139 (.cons rfl (.cons rfl (.cons rfl .nil))) rfl (roundedTime_p a.ba (elAt a p.2) t)) ?_
 refine rg_q (q_move (x := .d (.tup _)) rfl) (rg_q (q_extract rfl rfl) (rg_q (q_extract rfl rfl) (rg_q (q_a rfl) (rg_q (q_a rfl) ?_))))
 refine rs (xa 4 ?_)
 refine rg_q (q_m rfl) (rg_q (q_m rfl) ?_)
 refine rg_q (q_add rfl rfl xi) ?_
 refine rg_q (q_a rfl) ?_
 refine xc (awp_ret ?_)
 refine ⟨_, xk1, ?_⟩
 rfl

def smpI (a : Arr) (t p : Int × Int) : Int := rndI (echI a t p - a.ts.1) a.ts.2

def opE (a : Arr) (t p : Int × Int) : Int := if (ckArr a).2 ≠ 0 then (ckArr a).2 else firstE [spotE t, plateE t.2 a.ou.t, pairE a.el.length p]
theorem op_ok {a : Arr} {t p : Int × Int} (h : opE a t p = 0) : ArrOk a ∧ ((0 ≤ p.1 ∧ p.1 < a.el.length) ∧ 0 ≤ p.2 ∧ p.2 < a.el.length) ∧ spotE t = 0 ∧ plateE t.2 a.ou.t = 0 := by
  unfold opE at h
  by_cases h1 : (ckArr a).2 ≠ 0
  · rw [if_pos h1] at h; exact absurd h h1
  rw [if_neg h1, first_zero] at h
  simp only [List.mem_cons, List.not_mem_nil, or_false, forall_eq_or_imp, forall_eq] at h
  exact ⟨(ckArr_ok (Decidable.not_not.1 h1)).1, pair_ok h.2.2, h.1, h.2.1⟩
theorem bopen_p (a : Arr) (t p : Int × Int) : PC Tryz.prog 89 [.agg (arrC a), .agg (shC t), .agg (shC p)] (.tup [.agg (arrC a), .v (.int .i64 (opE a t p))]) := by
 refine pc_of_awp Tryz.func89 rfl Tryz.ntmps89 (rs := [.cell 6 171, .tmp 7]) Tryz.results89 (by simp) fun w0 => ?_
 refine awp_seq ?_
 refine xa 3 ?_
 refine rg_q (q_box rfl (by exact .inr ⟨_, rfl⟩)) ?_
 refine rg_q (q_box rfl (by exact .inr ⟨_, rfl⟩)) ?_
 refine rg_q (q_box rfl (by exact .inr ⟨_, rfl⟩)) ?_
 refine rg_nil ?_
 refine aops_alloc zr171 rfl rfl rfl ?_
 refine aops_q rfl (q_a rfl) ?_
 refine aops_nil (xq (xa 2 ?_))
 refine rg_q (q_loadA (ds := [_, _, _, _, _, _, _, _, _, _, _]) sz50 rfl rfl rfl) ?_
 refine rg_q (q_build (cs := [_, _, _, _, _, _, _, _, _, _, _]) pl171 zr171 rfl (.cons rfl (by exact .inr ⟨_, rfl⟩) .nil) ⟨⟨rfl, by decide⟩, trivial⟩ rfl) ?_
 refine rg_nil ?_
 refine aops_alloc zr171 rfl rfl rfl ?_
 refine aops_store sz171 rfl rfl (by exact .inr ⟨_, rfl⟩) rfl rfl (by decide) rfl ?_
 refine aops_nil (xq (awp_seq ?_))
 refine xa 7 ?_
 refine rg_q (q_loadA (ds := [_, _, _, _, _, _, _, _, _, _, _]) sz50 rfl rfl rfl) ?_
 refine rg_q (q_call en112 (.cons rfl .nil) rfl (checkArray_p _)) ?_
 refine rg_q (q_move (x := .d (.tup _)) rfl) (rg_q (q_extract rfl rfl) (rg_q (q_extract rfl rfl) (rg_q (q_a rfl) (rg_q (q_a rfl) ?_))))
 refine rs (xa 2 ?_)
 refine rg_q (q_m rfl) (rg_q (q_neq rfl rfl) ?_)
 refine xc (awp_cond rfl (fun hc3 => ?_) (fun hc3 => ?_))
 ·
  (try simp only [nb, ne_eq] at hc3)
  have hz : opE a t p = (ckArr a).2 := by unfold opE; rw [if_pos hc3]
  refine awp_seq ?_
  refine xa 2 ?_
  refine rg_q (q_load_refA (ds := [_, _, _, _, _, _, _, _, _, _, _]) sz171 rfl rfl rfl rfl) ?_
  refine rg_q (q_m rfl) ?_
  refine rg_nil ?_
  refine aops_store sz171 rfl rfl (by exact .inr ⟨_, rfl⟩) rfl rfl (by decide) rfl ?_
  refine aops_q rfl (q_a rfl) ?_
  refine aops_nil ?_
  change Awp _ _ _ _ _
  refine awp_ret ?_
  refine ⟨_, (.cons (.cellA rfl rfl sz171 rfl) xk1), ?_⟩
  rw [hz]; rfl
 ·
  (try simp only [nb, ne_eq] at hc3)
  have hck : (ckArr a).2 = 0 := by simpa using hc3
  have hok := (ckArr_ok hck).1
  have ht1 := hok.ou.t1
  have ht2 := hok.ou.t2
  have hl16 : a.el.length ≤ 1000 := by have := hok.n2; omega
  have hz : opE a t p = firstE [spotE t, plateE t.2 a.ou.t, pairE a.el.length p] := by unfold opE; rw [if_neg (by rw [hck]; simp)]
  refine awp_skip ?_
  change Awp _ _ _ _ _
  refine awp_seq ?_
  refine xa 13 ?_
  refine rg_q (q_load_refA (ds := [_, _, _, _, _, _, _, _, _, _, _]) sz171 rfl rfl rfl rfl) ?_
  refine rg_q (q_loadA (ds := [_, _]) sz23 rfl rfl rfl) ?_
  refine rg_q (q_call en114 (.cons rfl .nil) rfl (bspotErr_p _)) ?_
  refine rg_q (q_loadA (ds := [_, _]) sz23 rfl rfl rfl) ?_
  refine rg_q (q_fieldAddr fld50_1 rfl) (rg_q (q_fieldAddr fld46_3 rfl) (rg_q (q_load sz3 rfl rfl) ?_))
  refine rg_q (q_call en115 (.cons rfl (.cons rfl .nil)) rfl (plateErr_p t a.ou.t ht1 ht2)) ?_
  refine rg_q (q_load_refA (ds := [_, _, _, _, _, _, _, _, _, _, _]) sz171 rfl rfl rfl rfl) ?_
  refine rg_q (q_loadA (ds := [_, _]) sz106 rfl rfl rfl) ?_
  refine rg_q (q_call en116 (.cons rfl (.cons rfl .nil)) rfl (pairErr_p _ _ hl16)) ?_
  refine rg_q (q_buildSlice sl199 zr29 rfl rfl (by decide) (.cons rfl (by exact .inl rfl) (.cons rfl (by exact .inl rfl) (.cons rfl (by exact .inl rfl) .nil))) ⟨rfl, rfl, rfl, rfl, rfl, rfl, trivial⟩ rfl (by decide) rfl) ?_
  refine rg_q (q_call en113 (.cons rfl .nil) rfl (bfirst_p [_, _, _])) ?_
  refine rg_nil ?_
  refine aops_store sz171 rfl rfl (by exact .inr ⟨_, rfl⟩) rfl rfl (by decide) rfl ?_
  refine aops_q rfl (q_a rfl) ?_
  refine aops_nil ?_
  change Awp _ _ _ _ _
  refine awp_ret ?_
  refine ⟨_, (.cons (.cellA rfl rfl sz171 rfl) xk1), ?_⟩
  rw [hz]; rfl

def echR (a : Arr) (t p : Int × Int) : Int × Int := if opE a t p ≠ 0 then (0, opE a t p) else (echI a t p, 0)
theorem echoAt_p (a : Arr) (t p : Int × Int) : PC Tryz.prog 88 [.agg (arrC a), .agg (shC t), .agg (shC p)] (.tup [.v (.int .i64 ((echR a t p).1)), .v (.int .i64 ((echR a t p).2))]) := by
 refine pc_of_awp Tryz.func88 rfl Tryz.ntmps88 (rs := [.tmp 6, .tmp 7]) Tryz.results88 (by simp) fun w0 => ?_
 refine awp_seq ?_
 refine xa 5 ?_
 refine rg_q (q_box rfl (by exact .inr ⟨_, rfl⟩)) ?_
 refine rg_q (q_box rfl (by exact .inr ⟨_, rfl⟩)) ?_
 refine rg_q (q_box rfl (by exact .inr ⟨_, rfl⟩)) ?_
 refine rg_q (q_a rfl) (rg_q (q_a rfl) ?_)
 refine rs (xa 7 ?_)
 refine rg_q (q_loadA (ds := [_, _, _, _, _, _, _, _, _, _, _]) sz50 rfl rfl rfl) ?_
 refine rg_q (q_loadA (ds := [_, _]) sz23 rfl rfl rfl) ?_
 refine rg_q (q_loadA (ds := [_, _]) sz106 rfl rfl rfl) ?_
 refine rg_q (q_call en89 (.cons rfl (.cons rfl (.cons rfl .nil))) rfl (bopen_p _ _ _)) ?_
 refine rg_q (q_move (x := .d (.tup _)) rfl) (rg_q (q_extract rfl rfl) (rg_q (q_extract rfl rfl) ?_))
 refine rg_nil ?_
 refine aops_alloc zr171 rfl rfl rfl ?_
 refine aops_store sz171 rfl rfl (by exact .inr ⟨_, rfl⟩) rfl rfl (by decide) rfl ?_
 refine aops_q rfl (q_a rfl) ?_
 refine aops_nil (xq (awp_seq ?_))
 refine xa 2 ?_
 refine rg_q (q_m rfl) (rg_q (q_neq rfl rfl) ?_)
 refine xc (awp_cond rfl (fun hc2 => ?_) (fun hc2 => ?_))
 ·
  (try simp only [nb, ne_eq] at hc2)
  have hz : echR a t p = (0, opE a t p) := by unfold echR; rw [if_pos hc2]
  refine awp_seq ?_
  refine xa 3 ?_
  refine rg_q (q_m rfl) (rg_q (q_a rfl) (rg_q (q_a rfl) ?_))
  refine xc (awp_ret ?_)
  refine ⟨_, xk2, ?_⟩
  rw [hz]; rfl
 ·
  (try simp only [nb, ne_eq] at hc2)
  have ho : opE a t p = 0 := by simpa using hc2
  obtain ⟨hok, hpk, _⟩ := op_ok ho
  have hz : echR a t p = (echI a t p, 0) := by unfold echR; rw [if_neg (by rw [ho]; simp)]
  refine awp_skip ?_
  change Awp _ _ _ _ _
  refine awp_seq ?_
  refine xa 6 ?_
  refine rg_q (q_load_refA (ds := [_, _, _, _, _, _, _, _, _, _, _]) sz171 rfl rfl rfl rfl) ?_
  refine rg_q (q_loadA (ds := [_, _]) sz23 rfl rfl rfl) ?_
  refine rg_q (q_loadA (ds := [_, _]) sz106 rfl rfl rfl) ?_
  refine rg_q (q_call en111 (.cons rfl (.cons rfl (.cons rfl .nil))) rfl (echo_p _ _ _ hpk)) ?_
  refine rg_q (q_a rfl) (rg_q (q_a rfl) ?_)
  refine xc (awp_ret ?_)
  refine ⟨_, xk2, ?_⟩
  rw [hz]; rfl
end Go.Proofs.YtcdccdcbfbakfaaGreatDoor.Am.M
-- mini
set_option maxRecDepth 100000
namespace Go.Proofs.YtcdccdcbfbakfaaGreatDoor.Am.M
open Go

structure Flw where
  kd : Int
  at_ : Int × Int
  to_ : Int × Int
  pc : Int
  am : Int
  tp : Int
def flwC (x : Flw) : List D := [.v (.int .i64 x.kd), .v (.int .i64 x.at_.1), .v (.int .i64 x.at_.2), .v (.int .i64 x.to_.1), .v (.int .i64 x.to_.2), .v (.int .i64 x.pc), .v (.int .i64 x.am), .v (.int .i64 x.tp)]
theorem indexInt_p (f : Int → Bool) (g : FuncId) (cap : List D) (hen : enB Tryz.prog g = true) (l : List Int) (hf : ∀ a ∈ l, PC Tryz.prog g (.v (.int .i64 a) :: cap) (.v (.bool (f a)))) : PC Tryz.prog 71 [.sl 1 (l.map iC), .fn (.func g) cap] (.v (.int .i64 (idxOf f 0 l))) := by
 refine pc_of_awp Tryz.func71 rfl Tryz.ntmps71 (rs := [.tmp 4]) Tryz.results71 (by simp) fun w0 => ?_
 refine awp_seq ?_
 refine xa 1 ?_
 refine rg_q (q_a rfl) ?_
 refine rs (awp_seq ?_)
 refine xa 3 ?_
 refine rg_q (q_move (x := .d (.sl _ _)) rfl) ?_
 refine rg_q (q_len isl26 rfl (by exact len_map _ _)) ?_
 refine rg_q (q_m rfl) ?_
 refine xc (awp_len (t := 6) rfl (fun hl6 => ?_))
 (try simp only [List.length_map] at hl6)
 refine awp_block ?_
 refine awp_loopH [4, 5, 8, 9, 10, 11, 12, 13, 14, 15, 16, 17, 18] [] (α := Nat) (fun k => [(8, T.i (k : Int))]) (fun k => []) (fun k => k ≤ l.length ∧ idxOf f 0 l = idxOf f k (l.drop k)) (fun k => l.length - k) 0 ⟨Nat.zero_le _, rfl⟩ ?_ ?_
 · exact xh (ms := []) (by repeat (exact Out.refl _)) ⟨(by rfl), trivial⟩ trivial
 ·
  intro k ⟨hk, hh⟩
  refine awp_seq ?_
  refine xa 1 ?_
  refine rg_q (q_lss rfl rfl) ?_
  refine rs (awp_cond rfl (fun hc2 => ?_) (fun hc2 => ?_))
  ·
   (try simp only [nb, ne_eq] at hc2)
   have hlt : k < l.length := by omega
   have hx := List.getElem?_eq_getElem hlt
   have hd : idxOf f k (l.drop k) = if f l[k] = true then (k : Int) else idxOf f (k + 1) (l.drop (k + 1)) := by rw [List.drop_eq_getElem_cons hlt]; rfl
   have hfx := hf l[k] (List.getElem_mem hlt)
   generalize l[k] = x at *
   refine awp_skip ?_
   change Awp _ _ _ _ _
   refine awp_seq ?_
   refine awp_block ?_
   refine awp_seq ?_
   refine xa 2 ?_
   refine rg_q (q_m rfl) (rg_q (q_a rfl) ?_)
   refine rs (xa 6 ?_)
   refine rg_q (q_move (x := .d (.fn _ _)) rfl) (rg_q (q_move (x := .d (.sl _ _)) rfl) (rg_q (q_m rfl) ?_))
   refine rg_q (q_indexAddr sl26 rfl rfl (by omega) (map_at (by omega) hx)) ?_
   refine rg_q (q_load sz3 rfl rfl) ?_
   refine rg_q (q_callC hen rfl (.cons rfl .nil) (hfx)) ?_
   refine xc (awp_cond rfl (fun hc4 => ?_) (fun hc4 => ?_))
   ·
    (try simp only [nb, ne_eq] at hc4)
    refine awp_seq ?_
    refine xa 2 ?_
    refine rg_q (q_m rfl) (rg_q (q_a rfl) ?_)
    refine xc (awp_ret ?_)
    refine ⟨_, xk1, ?_⟩
    rw [hh, hd, if_pos (by simpa using hc4)]; rfl
   ·
    (try simp only [nb, ne_eq] at hc4)
    refine awp_skip ?_
    change Awp _ _ _ _ _
    refine xa 2 ?_
    refine rg_q (q_add rfl rfl xi) ?_
    refine rg_q (q_m rfl) ?_
    refine rn ?_
    refine ⟨k + 1, ⟨by omega, by rw [hh, hd, if_neg (by simpa using hc4)]⟩, by omega, ?_⟩
    exact xh (ms := []) (by repeat (first | exact Out.head rfl rfl | (refine Out.put ?_ rfl))) ⟨(by rfl), trivial⟩ trivial
  ·
   (try simp only [nb, ne_eq] at hc2)
   refine awp_exit ?_
   change Awp _ _ _ _ _
   refine awp_seq ?_
   refine xa 1 ?_
   refine rg_q (q_a rfl) ?_
   refine xc (awp_ret ?_)
   refine ⟨_, xk1, ?_⟩
   rw [hh, List.drop_of_length_le (by omega)]; rfl

theorem idxOf_any {α : Type} (f : α → Bool) : ∀ (l : List α) (i : Nat), decide (0 ≤ idxOf f i l) = l.any f
  | [], i => by unfold idxOf; simp
  | x :: xs, i => by
    unfold idxOf
    by_cases h : f x = true
    · rw [if_pos h]; simp [h]
    · rw [if_neg h, idxOf_any f xs]; simp [h]
theorem idxOf_mem {α : Type} (f : α → Bool) (l : List α) : decide (0 ≤ idxOf f 0 l) = l.any f := idxOf_any f l 0
theorem containsInt_p (f : Int → Bool) (g : FuncId) (cap : List D) (hen : enB Tryz.prog g = true) (l : List Int) (hf : ∀ a ∈ l, PC Tryz.prog g (.v (.int .i64 a) :: cap) (.v (.bool (f a)))) : PC Tryz.prog 49 [.sl 1 (l.map iC), .fn (.func g) cap] (.v (.bool (l.any f))) := by
 have hm := idxOf_mem f l
 refine pc_of_awp Tryz.func49 rfl Tryz.ntmps49 (rs := [.tmp 4]) Tryz.results49 (by simp) fun w0 => ?_
 refine awp_seq ?_
 refine xa 1 ?_
 refine rg_q (q_a rfl) ?_
 refine rs (xa 5 ?_)
 refine rg_q (q_move (x := .d (.sl _ _)) rfl) (rg_q (q_move (x := .d (.fn _ _)) rfl) ?_)
 refine rg_q (q_call en71 (.cons rfl (.cons rfl .nil)) rfl (indexInt_p f g cap hen l hf)) ?_
 refine rg_q (q_geq rfl rfl) (rg_q (q_a rfl) ?_)
 refine xc (awp_ret ?_)
 refine ⟨_, xk1, ?_⟩
 rw [← hm]; rfl
open Go

structure Spc where
  ar : Arr
  pl : List Int
  fl : List Flw
def spcC (s : Spc) : List D := [.sl 2 (s.ar.el.map shC), .v (.int .i64 s.ar.ou.w), .v (.int .i64 s.ar.ou.m), .v (.int .i64 s.ar.ou.k), .v (.int .i64 s.ar.ou.t), .v (.int .i64 s.ar.ba.w), .v (.int .i64 s.ar.ba.m), .v (.int .i64 s.ar.ba.k), .v (.int .i64 s.ar.ba.t), .v (.int .i64 s.ar.ts.1), .v (.int .i64 s.ar.ts.2), .sl 1 (s.pl.map iC), .sl 8 (s.fl.map flwC)]
open Go

def iv (n : Int) : D := .v (.int .i64 n)
def fv (n : Int) : D := .v (.float .f32 (FloatKind.f32.nearest n))
def fC (b : Nat) : List D := [.v (.float .f32 b)]
def fz : D := .v (.float .f32 0)
theorem setCs_all {cs xs : List D} (h : xs.length = cs.length) : setCs cs 0 xs = xs := by
  unfold setCs
  rw [List.take_zero, Nat.zero_add, h, List.drop_length]; simp
def fd (b : Nat) : D := .v (.float .f32 b)
theorem fd_row (l : List Nat) : ((l.map fd).map fun d => [d]) = l.map fC := by rw [List.map_map]; rfl
end Go.Proofs.YtcdccdcbfbakfaaGreatDoor.Am.M
-- mini
set_option maxRecDepth 100000
namespace Go.Proofs.YtcdccdcbfbakfaaGreatDoor.Am.M
open Go
theorem within4_p (n lo hi : Int) : PC Tryz.prog 19 [.v (.int .i64 (n)), .v (.int .i64 (lo)), .v (.int .i64 (hi))] (.v (.bool (inR lo n hi))) := by
 refine pc_of_awp Tryz.func19 rfl Tryz.ntmps19 (rs := [.tmp 6]) Tryz.results19 (by simp) fun w0 => ?_
 refine awp_seq ?_
 refine xa 1 ?_
 refine rg_q (q_a rfl) ?_
 refine rs (xa 9 ?_)
 refine rg_q (q_m rfl) (rg_q (q_m rfl) (rg_q (q_leq rfl rfl) (rg_q (q_m rfl) ?_)))
 refine rg_g rfl rfl (fun hG => (q_m rfl)) ?_
 refine rg_g rfl rfl (fun hG => (q_m rfl)) ?_
 refine rg_g rfl rfl (fun hG => (q_leq rfl rfl)) ?_
 refine rg_pick rfl rfl rfl rfl rfl rfl ?_
 refine rg_q (q_a rfl) ?_
 refine xc (awp_ret ?_)
 refine ⟨_, xk1, ?_⟩
 unfold inR; simp only [bif_and]; rfl
theorem size4_p (n : Int) (h1 : -9000000000000000000 ≤ n) (h2 : n ≤ 9000000000000000000) : PC Tryz.prog 83 [.v (.int .i64 (n))] (.v (.int .i64 (max n (-n)))) := by
 refine pc_of_awp Tryz.func83 rfl Tryz.ntmps83 (rs := [.tmp 2]) Tryz.results83 (by simp) fun w0 => ?_
 refine awp_seq ?_
 refine xa 1 ?_
 refine rg_q (q_a rfl) ?_
 refine rs (xa 5 ?_)
 refine rg_q (q_m rfl) (rg_q (q_m rfl) ?_)
 refine rg_q (q_neg rfl xi) ?_
 refine rg_q (q_max rfl rfl) ?_
 refine rg_q (q_a rfl) ?_
 refine xc (awp_ret ?_)
 refine ⟨_, xk1, ?_⟩
 rfl

open Go

open Go

section
variable {P : Program} {w0 : Cx} {ops : List Oper} {rest : List Oper} {R : Exit → St → Prop} {st : St} {ty : TypeId} {pos : String} {after : Array Edge}
end

open Go

end Go.Proofs.YtcdccdcbfbakfaaGreatDoor.Am.M
-- mini
set_option maxRecDepth 100000
namespace Go.Proofs.YtcdccdcbfbakfaaGreatDoor.Am.M
open Go

section
variable {P : Program} {w0 : Cx} {ty : TypeId} {pos : String} {after : Array Edge}
end

open Go

end Go.Proofs.YtcdccdcbfbakfaaGreatDoor.Am.M
-- mini
set_option maxRecDepth 100000
namespace Go.Proofs.YtcdccdcbfbakfaaGreatDoor.Am.M
open Go

theorem eq38_low (a0 a1 b0 b1 : Int) (w : World) : (Op.equalIn (9998 + 1) 23 (.agg #[iW a0, iW a1]) (.agg #[iW b0, iW b1])).run Tryz.prog w = .ok (decide ([a0, a1] = [b0, b1])) w := by
  have hf : (Tryz.prog.fieldsOf 23).toList = [⟨ "X", 3, 0, false, "", "", 0⟩, ⟨ "Z", 3, 1, false, "", "", 8⟩] := by kernel_rfl
  rw [show (9998 + 1 : Nat) = 9997 + 1 + 1 from rfl, run_equalIn_struct w (9997 + 1) 23 _ _ (by kernel_rfl) (by kernel_rfl), hf]
  have u3 := Tryz.underlying3
  simp [Op.eqFields, part, isAgg, run_underlying u3, iW, run_equalIn_int, u3, Result.andThen]
  (repeat' split) <;> simp_all

section
variable {P : Program} {w0 : Cx} {n : Nat} {s : Nat → Site} {ev : Operand → T} {dst : Option Tmp} {ty : TypeId} {pos : String} {after : Array Edge} {g : Option (Nat × Bool)}
theorem q_fieldA {t : TypeId} {y : Operand} {f off m : Nat} {ft : TypeId} {cs ds : List D} (ht : (match P.underlying t with | some (.struct fs) => (fs[f]?).map (fun fd => (fd.offset, fd.type)) | _ => none) = some (off, ft)) (hs : szB P ft true m = true) (hy : ev y = .d (.agg cs)) (hd : (cs.drop off).take m = ds) (hl : ds.length = m) : QOp P w0 n s ev ⟨dst, .field t y f, ty, pos, after, g⟩ (.d (.agg ds)) :=
  .mk fun a w ok blk val h _ hnew => by
    subst hd
    obtain ⟨vs, hv, hL, hsc⟩ := agg_inv (show Rep w _ (.agg cs) (a.eval y) by have := h y; rw [hy] at this; exact this)
    have hlen : vs.length = cs.length := hL.length
    refine ⟨.agg ((vs.drop off).take m).toArray, w, ?_, Ext.refl w, ?_⟩
    · cases hu : P.underlying t with
      | none => simp [hu] at ht
      | some q =>
        cases q <;> simp only [hu, reduceCtorEq] at ht
        rename_i fs
        cases hf : fs[f]? with
        | none => simp [hf] at ht
        | some fd =>
          simp only [hf, Option.map_some, Option.some.injEq, Prod.mk.injEq] at ht
          obtain ⟨e1, e2⟩ := ht
          subst e1; subst e2
          simp [execOp, Instr.field, run_underlying hu, hf, hv, asAgg, part, szB_agg hs, szB_size hs]
    · refine Rep.agg _ _ (by rw [List.length_take, List.length_drop, List.length_take, List.length_drop, hlen]) (fun j d hj => ?_) (fun j d v hj hv => ?_)
      · rw [List.getElem?_take] at hj
        split at hj
        · rw [List.getElem?_drop] at hj; exact hsc _ d hj
        · cases hj
      · rw [List.getElem?_take] at hj hv
        split at hj
        · rename_i hjm
          rw [if_pos hjm, List.getElem?_drop] at hv
          rw [List.getElem?_drop] at hj
          exact hL.get _ d v hj hv
        · cases hj
end

def oneM : Md := ⟨2500, 5000, 0, 1000⟩
def oneS : Spc := ⟨⟨[(0, -300)], oneM, oneM, (3900000, 50000)⟩, [3, -2], [⟨0, (0, 400), (0, 0), 0, 10, 0⟩]⟩
def exB : List Nat := 0 :: 0 :: 1106247680 :: 3248488448 :: List.replicate 60 0
theorem one_p  : PC Tryz.prog 36 [] (.agg (spcC oneS)) := by
 refine pc_of_awp Tryz.func36 rfl Tryz.ntmps36 (rs := [.cell 0 102]) Tryz.results36 (by simp) fun w0 => ?_
 refine awp_seq ?_
 refine xa 0 ?_
 refine rg_nil ?_
 refine aops_alloc zr102 rfl rfl rfl ?_
 refine aops_nil (xq (xa 1 ?_))
 refine rg_q (q_build (cs := [_, _, _, _]) pl46 zr46 rfl (.cons rfl (by exact .inl rfl) (.cons rfl (by exact .inl rfl) (.cons rfl (by exact .inl rfl) .nil))) ⟨⟨rfl, by decide⟩, ⟨rfl, by decide⟩, ⟨rfl, by decide⟩, trivial⟩ rfl) ?_
 refine rg_nil ?_
 refine aops_alloc zr46 rfl rfl rfl ?_
 refine aops_store sz46 rfl rfl (by exact .inr ⟨_, rfl⟩) rfl rfl (by decide) rfl ?_
 refine aops_nil (xq (xa 11 ?_))
 refine rg_q (q_build (cs := [_, _]) pl23 zr23 rfl (.cons rfl (by exact .inl rfl) (.cons rfl (by exact .inl rfl) .nil)) ⟨⟨rfl, by decide⟩, ⟨rfl, by decide⟩, trivial⟩ rfl) ?_
 refine rg_q (q_buildSlice sl44 zr23 rfl rfl (by decide) (.cons rfl (by exact .inr ⟨_, rfl⟩) .nil) ⟨rfl, rfl, trivial⟩ rfl (by decide) rfl) ?_
 refine rg_q (q_load_refA (ds := [_, _, _, _]) sz46 rfl rfl rfl rfl) ?_
 refine rg_q (q_load_refA (ds := [_, _, _, _]) sz46 rfl rfl rfl rfl) ?_
 refine rg_q (q_build (cs := [_, _]) pl48 zr48 rfl (.cons rfl (by exact .inl rfl) (.cons rfl (by exact .inl rfl) .nil)) ⟨⟨rfl, by decide⟩, ⟨rfl, by decide⟩, trivial⟩ rfl) ?_
 refine rg_q (q_build (cs := [_, _, _, _, _, _, _, _, _, _, _]) pl50 zr50 rfl (.cons rfl (by exact .inl rfl) (.cons rfl (by exact .inr ⟨_, rfl⟩) (.cons rfl (by exact .inr ⟨_, rfl⟩) (.cons rfl (by exact .inr ⟨_, rfl⟩) .nil)))) ⟨⟨rfl, by decide⟩, ⟨rfl, by decide⟩, ⟨rfl, by decide⟩, ⟨rfl, by decide⟩, trivial⟩ rfl) ?_
 refine rg_q (q_buildSlice sl26 zr3 rfl rfl (by decide) (.cons rfl (by exact .inl rfl) (.cons rfl (by exact .inl rfl) .nil)) ⟨rfl, rfl, rfl, rfl, trivial⟩ rfl (by decide) rfl) ?_
 refine rg_q (q_build (cs := [_, _]) pl23 zr23 rfl (.cons rfl (by exact .inl rfl) (.cons rfl (by exact .inl rfl) .nil)) ⟨⟨rfl, by decide⟩, ⟨rfl, by decide⟩, trivial⟩ rfl) ?_
 refine rg_q (q_build (cs := [_, _, _, _, _, _, _, _]) pl144 zr144 rfl (.cons rfl (by exact .inr ⟨_, rfl⟩) (.cons rfl (by exact .inl rfl) .nil)) ⟨⟨rfl, by decide⟩, ⟨rfl, by decide⟩, trivial⟩ rfl) ?_
 refine rg_q (q_buildSlice sl100 zr144 rfl rfl (by decide) (.cons rfl (by exact .inr ⟨_, rfl⟩) .nil) ⟨rfl, rfl, trivial⟩ rfl (by decide) rfl) ?_
 refine rg_q (q_build pl102 zr102 rfl (.cons rfl (by exact .inr ⟨_, rfl⟩) (.cons rfl (by exact .inl rfl) (.cons rfl (by exact .inl rfl) .nil))) ⟨⟨rfl, by decide⟩, ⟨rfl, by decide⟩, ⟨rfl, by decide⟩, trivial⟩ rfl) ?_
 refine rg_nil ?_
 refine aops_store sz102 rfl rfl (by exact .inr ⟨_, rfl⟩) rfl rfl (by decide) rfl ?_
 refine aops_nil ?_
 change Awp _ _ _ _ _
 refine awp_ret ?_
 refine ⟨_, (.cons (.cellA rfl rfl sz102 rfl) .nil), ?_⟩
 rfl
end Go.Proofs.YtcdccdcbfbakfaaGreatDoor.Am.M
-- mini
set_option maxRecDepth 100000
namespace Go.Proofs.YtcdccdcbfbakfaaGreatDoor.Am.M
open Go
open Go

open Go
open Go

open Go

theorem lt_is {m : Md} {a b : Int × Int} (hm : MdOk m) (hw : wayE m a b = 0) : ltI m a b = (leastI (wayI m a b).1, 0) := by
  have h1 : modeE m = 0 := mode_ok.2 hm
  have ho : opnI m a b = wayI m a b := by unfold opnI; rw [if_neg (fun q => q h1)]
  unfold ltI
  rw [ho, (way_law hm hw).1]; rfl
open Go

open Go

theorem el_in {a : Arr} (hok : ArrOk a) {i : Int} (h1 : 0 ≤ i) (h2 : i < a.el.length) : (-100000 ≤ (elAt a i).1 ∧ (elAt a i).1 ≤ 100000) ∧ -100000 ≤ (elAt a i).2 ∧ (elAt a i).2 < 0 :=
  hok.el _ (List.mem_of_getElem? (el_at h1 h2))
theorem plate_ok {z t : Int} : plateE z t = 0 ↔ 1 ≤ z ∧ z ≤ t - 1 := by
  unfold plateE; rw [must_zero (by decide)]; simp [inR]
theorem way_of {a : Arr} (hok : ArrOk a) {i : Int} (h1 : 0 ≤ i) (h2 : i < a.el.length) {t : Int × Int} (hs : spotE t = 0) (hp : plateE t.2 a.ou.t = 0) {m : Md} (hm : m.t = a.ou.t) : wayE m (elAt a i) t = 0 := by
  obtain ⟨⟨e1, e2⟩, e3, e4⟩ := el_in hok h1 h2
  have hp2 := plate_ok.1 hp
  unfold wayE
  rw [first_zero]
  intro x hx
  simp only [List.mem_cons, List.not_mem_nil, or_false] at hx
  rcases hx with rfl | rfl | rfl | rfl
  · exact spot_ok.2 (by omega)
  · exact hs
  · rw [must_zero (by decide)]; simpa using e4
  · rw [must_zero (by decide), hm]; simp [inR]; omega

def erI (a : Arr) (t p : Int × Int) : Rg := ((ltI a.ou (elAt a p.1) t).1.1 + (ltI a.ba (elAt a p.2) t).1.1, (ltI a.ou (elAt a p.1) t).1.2 + (ltI a.ba (elAt a p.2) t).1.2)

end Go.Proofs.YtcdccdcbfbakfaaGreatDoor.Am.M
-- mini
set_option maxRecDepth 100000
namespace Go.Proofs.YtcdccdcbfbakfaaGreatDoor.Am.M
open Go

def echC (m n : Md) (a t b : Int × Int) : List D := mdC m ++ mdC n ++ shC a ++ shC t ++ shC b
theorem echoTime_p (m n : Md) (a t b : Int × Int) (hm : MdOk m) (hn : MdOk n) (hw1 : wayE m a t = 0) (hw2 : wayE n b t = 0) : PC Tryz.prog 90 [.agg (echC m n a t b)] (.tup [.agg [.v (.int .i64 ((ltI m a t).1.1 + (ltI n b t).1.1)), .v (.int .i64 ((ltI m a t).1.2 + (ltI n b t).1.2))], .v (.int .i64 (0))]) := by
 have hfe : firstE [modeE m, modeE n] = 0 := first_zero.2 (by intro x hx; simp only [List.mem_cons, List.not_mem_nil, or_false] at hx; rcases hx with q | q; (rw [q]; exact mode_ok.2 hm); (rw [q]; exact mode_ok.2 hn))
 have hz1 := (way_law hm hw1).1
 have hz2 := (way_law hn hw2).1
 have hcx1 := (way_law hm hw1).2
 have hcx2 := (way_law hn hw2).2
 have hl1 := lt_is hm hw1
 have hl2 := lt_is hn hw2
 have li1 := least_in hcx1
 have li2 := least_in hcx2
 obtain ⟨a1, a2, a3, a4⟩ := li1
 obtain ⟨b1, b2, b3, b4⟩ := li2
 have f1 : (wayI m a t).2 = 0 := by rw [hz1]
 have f2 : (wayI n b t).2 = 0 := by rw [hz2]
 refine pc_of_awpN Tryz.func90 rfl Tryz.ntmps90 (rs := [.cell 2 58, .tmp 3]) Tryz.results90 (by simp) fun w0 hmine hrnd hpn => ?_
 refine awp_seq ?_
 refine xa 1 ?_
 refine rg_q (q_box rfl (by exact .inr ⟨_, rfl⟩)) ?_
 refine rg_nil ?_
 refine aops_alloc zr58 rfl rfl rfl ?_
 refine aops_q rfl (q_a rfl) ?_
 refine aops_nil (xq (awp_seq ?_))
 refine xa 9 ?_
 refine rg_q (q_fieldAddr fld176_0 rfl) ?_
 refine rg_q (q_loadA (ds := [_, _, _, _]) sz46 rfl rfl rfl) ?_
 refine rg_q (q_call en118 (.cons rfl .nil) rfl (checkMode_p m)) ?_
 refine rg_q (q_fieldAddr fld176_1 rfl) ?_
 refine rg_q (q_loadA (ds := [_, _, _, _]) sz46 rfl rfl rfl) ?_
 refine rg_q (q_call en118 (.cons rfl .nil) rfl (checkMode_p n)) ?_
 refine rg_q (q_buildSlice sl199 zr29 rfl rfl (by decide) (.cons rfl (by exact .inl rfl) (.cons rfl (by exact .inl rfl) .nil)) ⟨rfl, rfl, rfl, rfl, trivial⟩ rfl (by decide) rfl) ?_
 refine rg_q (q_call en117 (.cons rfl .nil) rfl (rfirst_p [_, _])) ?_
 refine rg_q (q_a rfl) ?_
 refine rs (xa 2 ?_)
 refine rg_q (q_m rfl) (rg_q (q_neq rfl rfl) ?_)
 refine xc (awp_cond rfl (fun hc2 => ?_) (fun hc2 => ?_))
 ·
  exact absurd hfe (of_decide_eq_true hc2)
 ·
  (try simp only [nb, ne_eq] at hc2)
  refine awp_skip ?_
  change Awp _ _ _ _ _
  refine awp_seq ?_
  refine xa 10 ?_
  refine rg_q (q_fieldAddr fld176_0 rfl) ?_
  refine rg_q (q_loadA (ds := [_, _, _, _]) sz46 rfl rfl rfl) ?_
  refine rg_q (q_fieldAddr fld176_2 rfl) ?_
  refine rg_q (q_loadA (ds := [_, _]) sz23 rfl rfl rfl) ?_
  refine rg_q (q_fieldAddr fld176_3 rfl) ?_
  refine rg_q (q_loadA (ds := [_, _]) sz23 rfl rfl rfl) ?_
  refine rg_q (q_call en119 (.cons rfl (.cons rfl (.cons rfl .nil))) rfl (way_p m a t hm)) ?_
  refine rg_q (q_move (x := .d (.tup _)) rfl) (rg_q (q_extract rfl rfl) (rg_q (q_extract rfl rfl) ?_))
  refine rg_nil ?_
  refine aops_alloc zr209 rfl rfl rfl ?_
  refine aops_store sz209 rfl rfl (by exact .inr ⟨_, rfl⟩) rfl rfl (by decide) rfl ?_
  refine aops_q rfl (q_a rfl) ?_
  refine aops_nil (xq (awp_seq ?_))
  refine xa 2 ?_
  refine rg_q (q_m rfl) (rg_q (q_neq rfl rfl) ?_)
  refine xc (awp_cond rfl (fun hc5 => ?_) (fun hc5 => ?_))
  ·
   exact absurd f1 (of_decide_eq_true hc5)
  ·
   (try simp only [nb, ne_eq] at hc5)
   refine awp_skip ?_
   change Awp _ _ _ _ _
   refine awp_seq ?_
   refine xa 10 ?_
   refine rg_q (q_fieldAddr fld176_1 rfl) ?_
   refine rg_q (q_loadA (ds := [_, _, _, _]) sz46 rfl rfl rfl) ?_
   refine rg_q (q_fieldAddr fld176_4 rfl) ?_
   refine rg_q (q_loadA (ds := [_, _]) sz23 rfl rfl rfl) ?_
   refine rg_q (q_fieldAddr fld176_3 rfl) ?_
   refine rg_q (q_loadA (ds := [_, _]) sz23 rfl rfl rfl) ?_
   refine rg_q (q_call en119 (.cons rfl (.cons rfl (.cons rfl .nil))) rfl (way_p n b t hn)) ?_
   refine rg_q (q_move (x := .d (.tup _)) rfl) (rg_q (q_extract rfl rfl) (rg_q (q_extract rfl rfl) ?_))
   refine rg_nil ?_
   refine aops_alloc zr209 rfl rfl rfl ?_
   refine aops_store sz209 rfl rfl (by exact .inr ⟨_, rfl⟩) rfl rfl (by decide) rfl ?_
   refine aops_q rfl (q_a rfl) ?_
   refine aops_nil (xq (awp_seq ?_))
   refine xa 2 ?_
   refine rg_q (q_m rfl) (rg_q (q_neq rfl rfl) ?_)
   refine xc (awp_cond rfl (fun hc8 => ?_) (fun hc8 => ?_))
   ·
    exact absurd f2 (of_decide_eq_true hc8)
   ·
    (try simp only [nb, ne_eq] at hc8)
    refine awp_skip ?_
    change Awp _ _ _ _ _
    refine awp_seq ?_
    refine xa 5 ?_
    refine rg_q (q_load_refA (ds := [_, _, _, _, _, _]) sz209 rfl rfl rfl rfl) ?_
    refine rg_q (q_call en121 (.cons rfl .nil) rfl (least_p (wayI m a t).1 hcx1)) ?_
    refine rg_q (q_load_refA (ds := [_, _, _, _, _, _]) sz209 rfl rfl rfl rfl) ?_
    refine rg_q (q_call en121 (.cons rfl .nil) rfl (least_p (wayI n b t).1 hcx2)) ?_
    refine rg_q (q_call en120 (.cons rfl (.cons rfl .nil)) rfl (plus_p (leastI (wayI m a t).1) (leastI (wayI n b t).1) (by omega) (by omega) (by omega) (by omega) (by omega) (by omega) (by omega) (by omega))) ?_
    refine rg_nil ?_
    refine aops_store sz58 rfl rfl (by exact .inr ⟨_, rfl⟩) rfl rfl (by decide) rfl ?_
    refine aops_q rfl (q_a rfl) ?_
    refine aops_nil ?_
    change Awp _ _ _ _ _
    refine awp_ret ?_
    refine ⟨_, (.cons (.cellA rfl rfl sz58 rfl) xk1), ?_⟩
    rw [hl1, hl2]; rfl

def erR (a : Arr) (t p : Int × Int) : Rg × Int := if opE a t p ≠ 0 then ((0, 0), opE a t p) else (erI a t p, 0)
theorem echoRange_p (a : Arr) (t p : Int × Int) : PC Tryz.prog 66 [.agg (arrC a), .agg (shC t), .agg (shC p)] (.tup [.agg [.v (.int .i64 (((erR a t p).1).1)), .v (.int .i64 (((erR a t p).1).2))], .v (.int .i64 ((erR a t p).2))]) := by
 refine pc_of_awpN Tryz.func66 rfl Tryz.ntmps66 (rs := [.cell 6 58, .tmp 7]) Tryz.results66 (by simp) fun w0 hmine hrnd hpn => ?_
 refine awp_seq ?_
 refine xa 3 ?_
 refine rg_q (q_box rfl (by exact .inr ⟨_, rfl⟩)) ?_
 refine rg_q (q_box rfl (by exact .inr ⟨_, rfl⟩)) ?_
 refine rg_q (q_box rfl (by exact .inr ⟨_, rfl⟩)) ?_
 refine rg_nil ?_
 refine aops_alloc zr58 rfl rfl rfl ?_
 refine aops_q rfl (q_a rfl) ?_
 refine aops_nil (xq (awp_seq ?_))
 refine xa 7 ?_
 refine rg_q (q_loadA (ds := [_, _, _, _, _, _, _, _, _, _, _]) sz50 rfl rfl rfl) ?_
 refine rg_q (q_loadA (ds := [_, _]) sz23 rfl rfl rfl) ?_
 refine rg_q (q_loadA (ds := [_, _]) sz106 rfl rfl rfl) ?_
 refine rg_q (q_call en89 (.cons rfl (.cons rfl (.cons rfl .nil))) rfl (bopen_p _ _ _)) ?_
 refine rg_q (q_move (x := .d (.tup _)) rfl) (rg_q (q_extract rfl rfl) (rg_q (q_extract rfl rfl) ?_))
 refine rg_nil ?_
 refine aops_alloc zr171 rfl rfl rfl ?_
 refine aops_store sz171 rfl rfl (by exact .inr ⟨_, rfl⟩) rfl rfl (by decide) rfl ?_
 refine aops_q rfl (q_a rfl) ?_
 refine aops_nil (xq (xa 2 ?_))
 refine rg_q (q_m rfl) (rg_q (q_neq rfl rfl) ?_)
 refine xc (awp_cond rfl (fun hc2 => ?_) (fun hc2 => ?_))
 ·
  (try simp only [nb, ne_eq] at hc2)
  have hz : erR a t p = ((0, 0), opE a t p) := by unfold erR; rw [if_pos hc2]
  refine awp_seq ?_
  refine xa 2 ?_
  refine rg_q (q_build (cs := [_, _]) pl58 zr58 rfl .nil trivial rfl) ?_
  refine rg_q (q_m rfl) ?_
  refine rg_nil ?_
  refine aops_store sz58 rfl rfl (by exact .inr ⟨_, rfl⟩) rfl rfl (by decide) rfl ?_
  refine aops_q rfl (q_a rfl) ?_
  refine aops_nil ?_
  change Awp _ _ _ _ _
  refine awp_ret ?_
  refine ⟨_, (.cons (.cellA rfl rfl sz58 rfl) xk1), ?_⟩
  rw [hz]; rfl
 ·
  (try simp only [nb, ne_eq] at hc2)
  have ho : opE a t p = 0 := by simpa using hc2
  obtain ⟨hok, hpk, hs, hp⟩ := op_ok ho
  have hz : erR a t p = (erI a t p, 0) := by unfold erR; rw [if_neg (by rw [ho]; simp)]
  obtain ⟨⟨p1, p2⟩, p3, p4⟩ := hpk
  have hx := el_at p1 p2
  have hy := el_at p3 p4
  have hw1 := way_of hok p1 p2 hs hp (m := a.ou) rfl
  have hw2 := way_of hok p3 p4 hs hp (m := a.ba) hok.th.symm
  have e1 : ((p.1.toNat : Nat) : Int) = p.1 := by omega
  have e2 : ((p.2.toNat : Nat) : Int) = p.2 := by omega
  refine awp_skip ?_
  change Awp _ _ _ _ _
  refine awp_seq ?_
  refine xa 21 ?_
  refine rg_q (q_fieldAddr fld50_1 rfl) ?_
  refine rg_q (q_loadA (ds := [_, _, _, _]) sz46 rfl rfl rfl) ?_
  refine rg_q (q_fieldAddr fld50_2 rfl) ?_
  refine rg_q (q_loadA (ds := [_, _, _, _]) sz46 rfl rfl rfl) ?_
  refine rg_q (q_fieldAddr fld50_0 rfl) (rg_q (q_load sz44 rfl rfl) ?_)
  refine rg_q (q_indexAddr_ar ar106 rfl rfl (by omega) (by omega)) ?_
  refine rg_q (q_load sz3 rfl rfl) ?_
  refine rg_q (q_indexAddr sl44 rfl rfl (by omega) (map_at (k := p.1.toNat) (by omega) hx)) ?_
  refine rg_q (q_loadA (ds := [_, _]) sz23 rfl rfl rfl) ?_
  refine rg_q (q_loadA (ds := [_, _]) sz23 rfl rfl rfl) ?_
  refine rg_q (q_fieldAddr fld50_0 rfl) (rg_q (q_load sz44 rfl rfl) ?_)
  refine rg_q (q_indexAddr_ar ar106 rfl rfl (by omega) (by omega)) ?_
  refine rg_q (q_load sz3 rfl rfl) ?_
  refine rg_q (q_indexAddr sl44 rfl rfl (by omega) (map_at (k := p.2.toNat) (by omega) hy)) ?_
  refine rg_q (q_loadA (ds := [_, _]) sz23 rfl rfl rfl) ?_
  refine rg_q (q_build pl176 zr176 rfl (.cons rfl (by exact .inr ⟨_, rfl⟩) (.cons rfl (by exact .inr ⟨_, rfl⟩) (.cons rfl (by exact .inr ⟨_, rfl⟩) (.cons rfl (by exact .inr ⟨_, rfl⟩) (.cons rfl (by exact .inr ⟨_, rfl⟩) .nil))))) ⟨⟨rfl, by decide⟩, ⟨rfl, by decide⟩, ⟨rfl, by decide⟩, ⟨rfl, by decide⟩, ⟨rfl, by decide⟩, trivial⟩ rfl) ?_
  refine rg_q (q_call en90 (.cons rfl .nil) rfl (echoTime_p a.ou a.ba (elAt a p.1) t (elAt a p.2) hok.ou hok.ba hw1 hw2)) ?_
  refine rg_q (q_extract rfl rfl) (rg_q (q_extract rfl rfl) ?_)
  refine rg_nil ?_
  refine aops_store sz58 rfl rfl (by exact .inr ⟨_, rfl⟩) rfl rfl (by decide) rfl ?_
  refine aops_q rfl (q_a rfl) ?_
  refine aops_nil ?_
  change Awp _ _ _ _ _
  refine awp_ret ?_
  refine ⟨_, (.cons (.cellA rfl rfl sz58 rfl) xk1), ?_⟩
  rw [hz]; rfl
end Go.Proofs.YtcdccdcbfbakfaaGreatDoor.Am.M
-- mini
set_option maxRecDepth 100000
namespace Go.Proofs.YtcdccdcbfbakfaaGreatDoor.Am.M
open Go
theorem tsmall_p (n m : Int) (h1 : 0 ≤ m) (h2 : m ≤ 1000000000000) : PC Tryz.prog 180 [.v (.int .i64 (n)), .v (.int .i64 (m))] (.v (.bool (inR (-m) n m))) := by
 refine pc_of_awp Tryz.func180 rfl Tryz.ntmps180 (rs := [.tmp 4]) Tryz.results180 (by simp) fun w0 => ?_
 refine awp_seq ?_
 refine xa 1 ?_
 refine rg_q (q_a rfl) ?_
 refine rs (xa 6 ?_)
 refine rg_q (q_m rfl) (rg_q (q_m rfl) ?_)
 refine rg_q (q_neg rfl xi) ?_
 refine rg_q (q_m rfl) ?_
 refine rg_q (q_call en161 (.cons rfl (.cons rfl (.cons rfl .nil))) rfl (twithin_p _ _ _)) ?_
 refine rg_q (q_a rfl) ?_
 refine xc (awp_ret ?_)
 refine ⟨_, xk1, ?_⟩
 rfl

structure Whl (b : Nat) (n : Int) : Prop where
  lo : -2047 ≤ n
  hi : n ≤ 2047
  self : ordB .neq (FloatKind.f32.format.order b b) = false
  sub : floatBits .sub .f32 b b = some 0
  ge : ordB .geq (FloatKind.f32.format.order b 1266679808) = false
  le : ordB .leq (FloatKind.f32.format.order b 3414163456) = false
  int : floatToIntVal .f32 b .i64 = some n
  back : ordB .neq (FloatKind.f32.format.order (FloatKind.f32.nearest n) b) = false
def vI (b : Nat) : Int := (floatToIntVal .f32 b .i64).getD 0
theorem Whl.v {b : Nat} {n : Int} (h : Whl b n) : vI b = n := by unfold vI; rw [h.int]; rfl
theorem whl_fn {n : Int} (h1 : -2047 ≤ n) (h2 : n ≤ 2047) : Whl (FloatKind.f32.nearest n) n := by
  have hf := f32_of (show -16777215 ≤ n by omega) (by omega)
  refine ⟨h1, h2, f32_neq hf, ?_, f32_geq hf, f32_leq hf, f32_int hf, f32_neq hf⟩
  have h := f32_sub hf hf (by rw [Int.sub_self]; exact f32_of (by decide) (by decide))
  rw [Int.sub_self] at h; exact h
theorem whl_zero : ordB .neq (FloatKind.f32.format.order 0 0) = false := f32_neq (a := 0) (f32_of (by decide) (by decide))
def WhlL (bs : List Nat) : Prop := ∀ b ∈ bs, Whl b (vI b)
theorem tsampleErr_p (b : Nat) (n : Int) (h : Whl b n) : PC Tryz.prog 175 [fd b] (.v (.int .i64 (0))) := by
 have h1 := h.lo
 have h2 := h.hi
 have hr : inR (-2047) n 2047 = true := by simp [inR]; omega
 refine pc_of_awp Tryz.func175 rfl Tryz.ntmps175 (rs := [.tmp 2]) Tryz.results175 (by simp) fun w0 => ?_
 refine awp_seq ?_
 refine xa 1 ?_
 refine rg_q (q_a rfl) ?_
 refine rs (awp_block ?_)
 refine awp_seq ?_
 refine xa 10 ?_
 refine rg_q (q_m rfl) (rg_q (q_m rfl) ?_)
 refine rg_q (q_fcmp (by decide) rfl rfl h.self) ?_
 refine rg_q (q_m rfl) ?_
 refine rg_g rfl rfl (fun hG => (q_m rfl)) ?_
 refine rg_g rfl rfl (fun hG => (q_m rfl)) ?_
 refine rg_g rfl rfl (fun hG => (q_fbin (by decide) rfl rfl h.sub)) ?_
 refine rg_g rfl rfl (fun hG => (q_fcmp (by decide) rfl rfl whl_zero)) ?_
 refine rg_pick rfl rfl rfl rfl rfl rfl ?_
 refine rg_q (q_a rfl) ?_
 refine xc (awp_cond rfl (fun hc1 => ?_) (fun hc1 => ?_))
 ·
  cases hc1
 ·
  (try simp only [nb, ne_eq] at hc1)
  refine awp_seq ?_
  refine xa 7 ?_
  refine rg_q (q_m rfl) ?_
  refine rg_q (q_fcmp (by decide) rfl rfl h.ge) ?_
  refine rg_q (q_m rfl) ?_
  refine rg_g rfl rfl (fun hG => (q_m rfl)) ?_
  refine rg_g rfl rfl (fun hG => (q_fcmp (by decide) rfl rfl h.le)) ?_
  refine rg_pick rfl rfl rfl rfl rfl rfl ?_
  refine rg_q (q_a rfl) ?_
  refine xc (awp_cond rfl (fun hc3 => ?_) (fun hc3 => ?_))
  ·
   cases hc3
  ·
   (try simp only [nb, ne_eq] at hc3)
   refine awp_seq ?_
   refine xa 6 ?_
   refine rg_q (q_m rfl) ?_
   refine rg_q (q_convfi flt99 int3 rfl h.int) ?_
   refine rg_q (q_convf int3 flt99 rfl) ?_
   refine rg_q (q_m rfl) ?_
   refine rg_q (q_fcmp (by decide) rfl rfl h.back) ?_
   refine rg_q (q_a rfl) ?_
   refine xc (awp_cond rfl (fun hc5 => ?_) (fun hc5 => ?_))
   ·
    cases hc5
   ·
    (try simp only [nb, ne_eq] at hc5)
    refine awp_seq ?_
    refine xa 5 ?_
    refine rg_q (q_m rfl) ?_
    refine rg_q (q_convfi flt99 int3 rfl h.int) ?_
    refine rg_q (q_call en180 (.cons rfl (.cons rfl .nil)) rfl (tsmall_p _ _ (by omega) (by omega))) ?_
    refine rg_q (q_not rfl) (rg_q (q_a rfl) ?_)
    refine xc (awp_cond rfl (fun hc7 => ?_) (fun hc7 => ?_))
    ·
     rw [show inR (-2047) n 2047 = true from hr] at hc7
     cases hc7
    ·
     (try simp only [nb, ne_eq] at hc7)
     refine awp_skip ?_
     change Awp _ _ _ _ _
     refine awp_seq ?_
     refine xa 1 ?_
     refine rg_q (q_a rfl) ?_
     refine xc (awp_ret ?_)
     refine ⟨_, xk1, ?_⟩
     rfl
theorem tsamplesErr_p (l : List Nat) (hb : WhlL l) : PC Tryz.prog 162 [.sl 1 (l.map fC)] (.tup [.v (.int .i64 (0)), .v (.int .i64 (0))]) := by
 refine pc_of_awp Tryz.func162 rfl Tryz.ntmps162 (rs := [.tmp 2, .tmp 3]) Tryz.results162 (by simp) fun w0 => ?_
 refine awp_seq ?_
 refine xa 2 ?_
 refine rg_q (q_a rfl) (rg_q (q_a rfl) ?_)
 refine rs (awp_seq ?_)
 refine xa 3 ?_
 refine rg_q (q_move (x := .d (.sl _ _)) rfl) ?_
 refine rg_q (q_len isl51 rfl (by exact len_map _ _)) ?_
 refine rg_q (q_m rfl) ?_
 refine xc (awp_len (t := 7) rfl (fun hl7 => ?_))
 (try simp only [List.length_map] at hl7)
 refine awp_block ?_
 refine awp_loopH [2, 3, 4, 5, 6, 9, 10, 11, 12, 13, 14, 15, 16, 17, 18, 19, 20] [] (α := Nat) (fun k => [(9, T.i (k : Int))]) (fun k => []) (fun k => k ≤ l.length) (fun k => l.length - k) 0 (Nat.zero_le _) ?_ ?_
 · exact xh (ms := []) (by repeat (exact Out.refl _)) ⟨(by rfl), trivial⟩ trivial
 ·
  intro k hk
  refine awp_seq ?_
  refine xa 1 ?_
  refine rg_q (q_lss rfl rfl) ?_
  refine rs (awp_cond rfl (fun hc2 => ?_) (fun hc2 => ?_))
  ·
   (try simp only [nb, ne_eq] at hc2)
   have hlt : k < l.length := by omega
   obtain ⟨x, hx⟩ : ∃ x, l[k]? = some x := ⟨_, List.getElem?_eq_getElem hlt⟩
   have hx1 := hb x (List.mem_of_getElem? hx)
   refine awp_skip ?_
   change Awp _ _ _ _ _
   refine awp_seq ?_
   refine awp_block ?_
   refine awp_seq ?_
   refine xa 5 ?_
   refine rg_q (q_m rfl) ?_
   refine rg_q (q_indexAddr sl51 rfl rfl (by omega) (map_at (by omega) hx)) ?_
   refine rg_q (q_load sz99 rfl rfl) (rg_q (q_a rfl) (rg_q (q_a rfl) ?_))
   refine rs (xa 3 ?_)
   refine rg_q (q_m rfl) ?_
   refine rg_q (q_call en175 (.cons rfl .nil) rfl (tsampleErr_p _ _ (by assumption))) ?_
   refine rg_q (q_a rfl) ?_
   refine rs (xa 2 ?_)
   refine rg_q (q_m rfl) (rg_q (q_neq rfl rfl) ?_)
   refine xc (awp_cond rfl (fun hc5 => ?_) (fun hc5 => ?_))
   ·
    simp at hc5
   ·
    (try simp only [nb, ne_eq] at hc5)
    refine awp_skip ?_
    change Awp _ _ _ _ _
    refine xa 2 ?_
    refine rg_q (q_add rfl rfl xi) ?_
    refine rg_q (q_m rfl) ?_
    refine rn ?_
    refine ⟨k + 1, by omega, by omega, ?_⟩
    exact xh (ms := []) (by repeat (first | exact Out.head rfl rfl | (refine Out.put ?_ rfl))) ⟨(by rfl), trivial⟩ trivial
  ·
   (try simp only [nb, ne_eq] at hc2)
   refine awp_exit ?_
   change Awp _ _ _ _ _
   refine awp_seq ?_
   refine xa 2 ?_
   refine rg_q (q_a rfl) (rg_q (q_a rfl) ?_)
   refine xc (awp_ret ?_)
   refine ⟨_, xk2, ?_⟩
   rfl
theorem tcheckTrace_p (l : List Nat) (hS : l.length = 64) (hb : WhlL l) : PC Tryz.prog 163 [.agg (l.map fd)] (.tup [.v (.int .i64 (0)), .v (.int .i64 (0))]) := by
 refine pc_of_awp Tryz.func163 rfl Tryz.ntmps163 (rs := [.tmp 2, .tmp 3]) Tryz.results163 (by simp) fun w0 => ?_
 refine awp_seq ?_
 refine xa 3 ?_
 refine rg_q (q_box rfl (by exact .inr ⟨_, rfl⟩)) ?_
 refine rg_q (q_a rfl) (rg_q (q_a rfl) ?_)
 refine rs (xa 6 ?_)
 refine rg_q (q_sliceP (es := l.map fC) ar198 rfl (by show (l.map fd).length = 64; rw [List.length_map]; exact hS) (by decide) (by decide) (fd_row l)) ?_
 refine rg_q (q_call en162 (.cons rfl .nil) rfl (tsamplesErr_p l hb)) ?_
 refine rg_q (q_extract rfl rfl) (rg_q (q_extract rfl rfl) (rg_q (q_a rfl) (rg_q (q_a rfl) ?_)))
 refine xc (awp_ret ?_)
 refine ⟨_, xk2, ?_⟩
 rfl
theorem traceErr_p (l : List Nat) (hS : l.length = 64) (hb : WhlL l) : PC Tryz.prog 136 [.agg (l.map fd)] (.v (.int .i64 (0))) := by
 refine pc_of_awp Tryz.func136 rfl Tryz.ntmps136 (rs := [.tmp 2]) Tryz.results136 (by simp) fun w0 => ?_
 refine awp_seq ?_
 refine xa 2 ?_
 refine rg_q (q_box rfl (by exact .inr ⟨_, rfl⟩)) ?_
 refine rg_q (q_a rfl) ?_
 refine rs (xa 7 ?_)
 refine rg_q (q_loadA (ds := l.map fd) sz198 rfl (by rw [List.drop_zero]; exact List.take_of_length_le (by show (l.map fd).length ≤ 64; rw [List.length_map]; omega)) (by rw [List.length_map]; exact hS)) ?_
 refine rg_q (q_call en163 (.cons rfl .nil) rfl (tcheckTrace_p _ (by assumption) (by assumption))) ?_
 refine rg_q (q_move (x := .d (.tup _)) rfl) (rg_q (q_extract rfl rfl) (rg_q (q_extract rfl rfl) (rg_q (q_a rfl) (rg_q (q_a rfl) ?_))))
 refine rs (xa 2 ?_)
 refine rg_q (q_m rfl) (rg_q (q_a rfl) ?_)
 refine xc (awp_ret ?_)
 refine ⟨_, xk1, ?_⟩
 rfl
theorem checkMatrix_p (ne : Int) (l : List Nat) (h1 : 1 ≤ ne) (h2 : ne ≤ 16) (hl : (l.length : Int) = ne * ne * 64) (hb : WhlL l) : PC Tryz.prog 134 [.agg [.v (.int .i64 (ne)), .sl 1 (l.map fC)]] (.tup [.v (.int .i64 (0)), .v (.int .i64 (0))]) := by
 have hm := mulb (a := ne) (b := ne) (A := 16) (B := 16) (by omega) (by omega) (by omega) (by omega)
 refine pc_of_awp Tryz.func134 rfl Tryz.ntmps134 (rs := [.tmp 2, .tmp 3]) Tryz.results134 (by simp) fun w0 => ?_
 refine awp_seq ?_
 refine xa 3 ?_
 refine rg_q (q_box rfl (by exact .inr ⟨_, rfl⟩)) ?_
 refine rg_q (q_a rfl) (rg_q (q_a rfl) ?_)
 refine rs (awp_block ?_)
 refine awp_seq ?_
 refine xa 5 ?_
 refine rg_q (q_fieldAddr fld53_0 rfl) (rg_q (q_load sz3 rfl rfl) ?_)
 refine rg_q (q_call en161 (.cons rfl (.cons rfl (.cons rfl .nil))) rfl (twithin_p _ _ _)) ?_
 refine rg_q (q_not rfl) (rg_q (q_a rfl) ?_)
 refine xc (awp_cond rfl (fun hc1 => ?_) (fun hc1 => ?_))
 ·
  simp [inR] at hc1
  omega
 ·
  (try simp only [nb, ne_eq] at hc1)
  refine awp_seq ?_
  refine xa 11 ?_
  refine rg_q (q_fieldAddr fld53_1 rfl) (rg_q (q_load sz51 rfl rfl) ?_)
  refine rg_q (q_len isl51 rfl (by exact len_map _ _)) ?_
  refine rg_q (q_fieldAddr fld53_0 rfl) (rg_q (q_load sz3 rfl rfl) (rg_q (q_fieldAddr fld53_0 rfl) (rg_q (q_load sz3 rfl rfl) ?_)))
  refine rg_q (q_mul rfl rfl xi) ?_
  refine rg_q (q_mul rfl rfl xi) ?_
  refine rg_q (q_neq rfl rfl) (rg_q (q_a rfl) ?_)
  refine xc (awp_len (t := 11) rfl (fun hl11 => ?_))
  (try simp only [List.length_map] at hl11)
  refine awp_cond rfl (fun hc3 => ?_) (fun hc3 => ?_)
  ·
   rw [decide_eq_true_eq] at hc3
   exact absurd hl hc3
  ·
   (try simp only [nb, ne_eq] at hc3)
   refine awp_skip ?_
   change Awp _ _ _ _ _
   refine awp_seq ?_
   refine xa 7 ?_
   refine rg_q (q_fieldAddr fld53_1 rfl) (rg_q (q_load sz51 rfl rfl) ?_)
   refine rg_q (q_call en162 (.cons rfl .nil) rfl (tsamplesErr_p l hb)) ?_
   refine rg_q (q_extract rfl rfl) (rg_q (q_extract rfl rfl) (rg_q (q_a rfl) (rg_q (q_a rfl) ?_)))
   refine xc (awp_ret ?_)
   refine ⟨_, xk2, ?_⟩
   rfl

def outN (S : List Int) (k : Nat) : List D := (S.take k).map iv ++ List.replicate (64 - k) (iv 0)
theorem outN_len {S : List Int} {k : Nat} (hS : S.length = 64) (hk : k ≤ 64) : (outN S k).length = 64 := by unfold outN; rw [List.length_append, List.length_map, List.length_take, List.length_replicate]; omega
theorem outN_set {S : List Int} {k : Nat} {x : Int} (hS : S.length = 64) (h : S[k]? = some x) : setCs (outN S k) (0 + (k : Int).toNat * 1) [iv x] = outN S (k + 1) := by
  obtain ⟨hlt, hx⟩ := List.getElem?_eq_some_iff.1 h
  have hl : ((S.take k).map iv).length = k := by rw [List.length_map, List.length_take]; omega
  rw [Int.toNat_natCast, Nat.zero_add, Nat.mul_one, setCs_one (by rw [outN_len hS (by omega)]; omega)]
  unfold outN
  rw [List.set_append_right _ _ (by omega), hl, Nat.sub_self, show 64 - k = (64 - (k + 1)) + 1 by omega, List.replicate_succ, List.set_cons_zero, List.take_succ_eq_append_getElem hlt, hx, List.map_append, List.append_assoc]
  rfl
theorem outN_all {S : List Int} (hS : S.length = 64) : outN S 64 = S.map iv := by
  unfold outN
  rw [List.take_of_length_le (by omega)]; simp
theorem fd_at {l : List Nat} {k : Nat} {x : Nat} (h : l[k]? = some x) : (l.map fd)[0 + (k : Int).toNat * 1]? = some (fd x) := by rw [Int.toNat_natCast, Nat.zero_add, Nat.mul_one, List.getElem?_map, h]; rfl
theorem vI_len {l : List Nat} (h : l.length = 64) : ((l.map vI).map iv).length = 64 := by rw [List.length_map, List.length_map]; exact h
theorem vI_at {l : List Nat} {k x : Nat} (h : l[k]? = some x) : (l.map vI)[k]? = some (vI x) := by rw [List.getElem?_map, h]; rfl
theorem vI_in {l : List Nat} (h : WhlL l) : ∀ v ∈ l.map vI, -2047 ≤ v ∧ v ≤ 2047 := by
  intro v hv
  obtain ⟨b, hb, rfl⟩ := List.mem_map.1 hv
  exact ⟨(h b hb).lo, (h b hb).hi⟩
theorem numbersOf_p (l : List Nat) (hS : l.length = 64) (hb : WhlL l) : PC Tryz.prog 137 [.pt (l.map fd) 0] (.agg ((l.map vI).map iv)) := by
 have hS2 : (l.map vI).length = 64 := by rw [List.length_map]; exact hS
 refine pc_of_awp Tryz.func137 rfl Tryz.ntmps137 (rs := [.cell 2 235]) Tryz.results137 (by simp) fun w0 => ?_
 refine awp_seq ?_
 refine xa 0 ?_
 refine rg_nil ?_
 refine aops_alloc zr235 rfl rfl rfl ?_
 refine aops_nil (xq (awp_seq ?_))
 refine xa 2 ?_
 refine rg_q (q_move (x := .d (.pt _ _)) rfl) (rg_q (q_m rfl) ?_)
 refine xc (awp_block ?_)
 refine awp_loopH [3, 4, 6, 7, 8, 9, 10, 11, 12, 13, 14, 15, 16] [2] (α := Nat) (fun k => [(6, T.i (k : Int))]) (fun k => [(2, .box (outN (l.map vI) k))]) (fun k => k ≤ 64) (fun k => 64 - k) 0 (Nat.zero_le _) ?_ ?_
 · exact xh (ms := [2]) (by repeat (exact Out.refl _)) ⟨(by rfl), trivial⟩ ⟨(by rfl), trivial⟩
 ·
  intro k hk
  refine awp_seq ?_
  refine xa 1 ?_
  refine rg_q (q_lss rfl rfl) ?_
  refine rs (awp_cond rfl (fun hc2 => ?_) (fun hc2 => ?_))
  ·
   (try simp only [nb, ne_eq] at hc2)
   have hlt : k < l.length := by omega
   obtain ⟨x, hx⟩ : ∃ x, l[k]? = some x := ⟨_, List.getElem?_eq_getElem hlt⟩
   have hx1 := hb x (List.mem_of_getElem? hx)
   have hld := fd_at hx
   have hst := outN_set hS2 (vI_at hx)
   have hol := outN_len (k := k) hS2 (by omega)
   refine awp_skip ?_
   change Awp _ _ _ _ _
   refine awp_seq ?_
   refine awp_block ?_
   refine awp_seq ?_
   refine xa 6 ?_
   refine rg_q (q_m rfl) (rg_q (q_nilCheck rfl) ?_)
   refine rg_q (q_indexAddr_ar ar198 rfl rfl (by omega) (by omega)) ?_
   refine rg_q (q_load sz99 rfl hld) (rg_q (q_a rfl) (rg_q (q_a rfl) ?_))
   refine rn ?_
   change Awp _ _ _ _ _
   refine xa 4 ?_
   refine rg_q (q_m rfl) (rg_q (q_m rfl) ?_)
   refine rg_q (q_convfi flt99 int3 rfl hx1.int) ?_
   refine rg_q (q_indexAddr_aref ar235 rfl rfl (by omega) (by omega)) ?_
   refine rg_nil ?_
   refine aops_store (cs' := outN (l.map vI) (k + 1)) sz3 rfl rfl (by exact .inl rfl) rfl rfl (by rw [hol]; omega) hst ?_
   refine aops_nil ?_
   change Awp _ _ _ _ _
   refine xa 2 ?_
   refine rg_q (q_add rfl rfl xi) ?_
   refine rg_q (q_m rfl) ?_
   refine rn ?_
   refine ⟨k + 1, by omega, by omega, ?_⟩
   exact xh (ms := [2]) (by repeat (first | exact Out.head rfl rfl | (refine Out.put ?_ rfl) | (refine Out.site ?_ rfl))) ⟨(by rfl), trivial⟩ ⟨(by rfl), trivial⟩
  ·
   (try simp only [nb, ne_eq] at hc2)
   have hk64 : k = 64 := by omega
   subst hk64
   rw [outN_all hS2]
   refine awp_exit ?_
   change Awp _ _ _ _ _
   refine awp_seq ?_
   refine xa 1 ?_
   refine rg_q (q_load_refA (ds := (l.map vI).map iv) sz235 rfl rfl (by rw [List.drop_zero]; exact List.take_of_length_le (by rw [vI_len hS]; exact Nat.le_refl _)) (vI_len hS)) ?_
   refine rg_nil ?_
   refine aops_store (cs' := (l.map vI).map iv) sz235 rfl rfl (by exact .inr ⟨_, rfl⟩) (vI_len hS) rfl (by rw [vI_len hS]; decide) (setCs_all (by rfl)) ?_
   refine aops_nil ?_
   change Awp _ _ _ _ _
   refine awp_ret ?_
   refine ⟨_, (.cons (.cellA rfl rfl sz235 (vI_len hS)) .nil), ?_⟩
   rfl

def sAt (S : List Int) (k : Nat) : Int := S.getD k 0
def reI (S : List Int) (k : Nat) : Int := sAt S k - sAt S (k + 2)
def imI (S : List Int) (k : Nat) : Int := sAt S (k + 1) - sAt S (k + 3)
theorem win4 {S : List Int} (hS : S.length = 64) {k : Nat} (hk : k < 61) : ((((S.map iv).take (k + 4)).drop k).map fun d => [d]) = [iv (sAt S k), iv (sAt S (k + 1)), iv (sAt S (k + 2)), iv (sAt S (k + 3))].map fun d => [d] := by
  congr 1
  have hg : ∀ i, i < 64 → S[i]? = some (sAt S i) := fun i hi => by
    unfold sAt
    rw [List.getD_eq_getElem?_getD, List.getElem?_eq_getElem (by omega)]; rfl
  apply List.ext_getElem?
  intro i
  rw [List.getElem?_drop, List.getElem?_take, List.getElem?_map]
  match i with
  | 0 => rw [if_pos (by omega), hg _ (by omega)]; rfl
  | 1 => rw [if_pos (by omega), hg _ (by omega)]; rfl
  | 2 => rw [if_pos (by omega), hg _ (by omega)]; rfl
  | 3 => rw [if_pos (by omega), hg _ (by omega)]; rfl
  | i + 4 => rw [if_neg (by omega)]; rfl
theorem sAt_in {S : List Int} (hb : ∀ v ∈ S, -2047 ≤ v ∧ v ≤ 2047) (k : Nat) : -2047 ≤ sAt S k ∧ sAt S k ≤ 2047 := by
  unfold sAt
  rw [List.getD_eq_getElem?_getD]
  cases h : S[k]? with
  | none => exact ⟨by decide, by decide⟩
  | some v => exact hb v (List.mem_of_getElem? h)
theorem tparts_p (S : List Int) (hS : S.length = 64) (hb : ∀ v ∈ S, -2047 ≤ v ∧ v ≤ 2047) (k : Nat) (hk : k < 61) : PC Tryz.prog 138 [.pt (S.map iv) 0, .v (.int .i64 ((k : Int)))] (.tup [.v (.int .i64 (reI S k)), .v (.int .i64 (imI S k))]) := by
 have b0 := sAt_in hb k
 have b1 := sAt_in hb (k + 1)
 have b2 := sAt_in hb (k + 2)
 have b3 := sAt_in hb (k + 3)
 have hlm : (S.map iv).length = 64 := by rw [List.length_map]; exact hS
 refine pc_of_awpN Tryz.func138 rfl Tryz.ntmps138 (rs := [.tmp 4, .tmp 5]) Tryz.results138 (by simp) fun w0 hmine hrnd hpn => ?_
 refine awp_seq ?_
 refine xa 2 ?_
 refine rg_q (q_a rfl) (rg_q (q_a rfl) ?_)
 refine rs (xa 8 ?_)
 refine rg_q (q_move (x := .d (.pt _ _)) rfl) (rg_q (q_nilCheck rfl) (rg_q (q_m rfl) (rg_q (q_m rfl) ?_)))
 refine rg_q (q_add rfl rfl xi) ?_
 refine rg_q (q_slicePP (lo := k) (hi := k + 4) (es := [iv (sAt S k), iv (sAt S (k + 1)), iv (sAt S (k + 2)), iv (sAt S (k + 3))].map fun d => [d]) ar235 rfl hlm (by decide) rfl rfl (by omega) (by omega) (by omega) (win4 hS hk)) ?_
 refine rg_q (q_toArr (cs := [iv (sAt S k), iv (sAt S (k + 1)), iv (sAt S (k + 2)), iv (sAt S (k + 3))]) ar261 rfl rfl rfl (by decide)) ?_
 refine rg_q (q_loadA (ds := [_, _, _, _]) sz261 rfl rfl rfl) ?_
 refine rg_nil ?_
 refine aops_alloc zr261 rfl rfl rfl ?_
 refine aops_store sz261 rfl rfl (by exact .inr ⟨_, rfl⟩) rfl rfl (by decide) rfl ?_
 refine aops_nil (xq (xa 12 ?_))
 refine rg_q (q_indexAddr_aref ar261 rfl rfl (by omega) (by omega)) ?_
 refine rg_q (q_load_ref sz3 rfl rfl rfl) ?_
 refine rg_q (q_indexAddr_aref ar261 rfl rfl (by omega) (by omega)) ?_
 refine rg_q (q_load_ref sz3 rfl rfl rfl) ?_
 refine rg_q (q_sub rfl rfl xi) ?_
 refine rg_q (q_indexAddr_aref ar261 rfl rfl (by omega) (by omega)) ?_
 refine rg_q (q_load_ref sz3 rfl rfl rfl) ?_
 refine rg_q (q_indexAddr_aref ar261 rfl rfl (by omega) (by omega)) ?_
 refine rg_q (q_load_ref sz3 rfl rfl rfl) ?_
 refine rg_q (q_sub rfl rfl xi) ?_
 refine rg_q (q_a rfl) (rg_q (q_a rfl) ?_)
 refine xc (awp_ret ?_)
 refine ⟨_, xk2, ?_⟩
 rfl

theorem sq_bnd {S : List Int} (hb : ∀ v ∈ S, -2047 ≤ v ∧ v ≤ 2047) (k : Nat) : (-4094 ≤ reI S k ∧ reI S k ≤ 4094) ∧ (-4094 ≤ imI S k ∧ imI S k ≤ 4094) := by
  have b0 := sAt_in hb k
  have b1 := sAt_in hb (k + 1)
  have b2 := sAt_in hb (k + 2)
  have b3 := sAt_in hb (k + 3)
  unfold reI imI; omega

def cx (re im : Int) : D := .v (.complex .f32 (FloatKind.f32.nearest re) (FloatKind.f32.nearest im))
def anL (S : List Int) : List D := (List.range 61).map fun k => cx (reI S k) (imI S k)
def outA (S : List Int) (k : Nat) : List D := ((List.range k).map fun k => cx (reI S k) (imI S k)) ++ List.replicate (61 - k) (.v (.complex .f32 0 0))
theorem outA_len {S : List Int} {k : Nat} (hk : k ≤ 61) : (outA S k).length = 61 := by unfold outA; rw [List.length_append, List.length_map, List.length_range, List.length_replicate]; omega
theorem outA_set {S : List Int} {k : Nat} (hk : k < 61) : setCs (outA S k) (0 + (k : Int).toNat * 1) [cx (reI S k) (imI S k)] = outA S (k + 1) := by
  have hl : ((List.range k).map fun k => cx (reI S k) (imI S k)).length = k := by rw [List.length_map, List.length_range]
  rw [Int.toNat_natCast, Nat.zero_add, Nat.mul_one, setCs_one (by rw [outA_len (by omega)]; omega)]
  unfold outA
  rw [List.set_append_right _ _ (by omega), hl, Nat.sub_self, show 61 - k = (61 - (k + 1)) + 1 by omega, List.replicate_succ, List.set_cons_zero, List.range_succ, List.map_append, List.append_assoc]
  rfl
theorem outA_all (S : List Int) : outA S 61 = anL S := by unfold outA anL; simp
theorem anL_len (S : List Int) : (anL S).length = 61 := by unfold anL; rw [List.length_map, List.length_range]
theorem analytic_p (l : List Nat) (hS : l.length = 64) (hb : WhlL l) : PC Tryz.prog 110 [.agg (l.map fd)] (.tup [.agg (anL (l.map vI)), .v (.int .i64 (0))]) := by
 have hlm := vI_len hS
 have hS2 : (l.map vI).length = 64 := by rw [List.length_map]; exact hS
 have hb2 := vI_in hb
 refine pc_of_awpN Tryz.func110 rfl Tryz.ntmps110 (rs := [.cell 2 146, .tmp 3]) Tryz.results110 (by simp) fun w0 hmine hrnd hpn => ?_
 refine awp_seq ?_
 refine xa 1 ?_
 refine rg_q (q_box rfl (by exact .inr ⟨_, rfl⟩)) ?_
 refine rg_nil ?_
 refine aops_alloc zr146 rfl rfl rfl ?_
 refine aops_q rfl (q_a rfl) ?_
 refine aops_nil (xq (xa 0 ?_))
 refine rg_nil ?_
 refine aops_alloc zr146 rfl rfl rfl ?_
 refine aops_nil (xq (awp_seq ?_))
 refine xa 3 ?_
 refine rg_q (q_loadA (ds := l.map fd) sz198 rfl (by rw [List.drop_zero]; exact List.take_of_length_le (by show (l.map fd).length ≤ 64; rw [List.length_map]; omega)) (by rw [List.length_map]; exact hS)) ?_
 refine rg_q (q_call en136 (.cons rfl .nil) rfl (traceErr_p _ (by assumption) (by assumption))) ?_
 refine rg_q (q_a rfl) ?_
 refine rs (xa 2 ?_)
 refine rg_q (q_m rfl) (rg_q (q_neq rfl rfl) ?_)
 refine xc (awp_cond rfl (fun hc3 => ?_) (fun hc3 => ?_))
 ·
  simp at hc3
 ·
  (try simp only [nb, ne_eq] at hc3)
  refine awp_skip ?_
  change Awp _ _ _ _ _
  refine awp_seq ?_
  refine xa 1 ?_
  refine rg_q (q_call en137 (.cons rfl .nil) rfl (numbersOf_p l hS hb)) ?_
  refine rg_nil ?_
  refine aops_allocD zr235 rfl sz235 rfl rfl (by exact .inr ⟨_, rfl⟩) hlm rfl ?_
  refine aops_nil (xq (awp_seq ?_))
  refine xa 1 ?_
  refine rg_q (q_m rfl) ?_
  refine xc (awp_block ?_)
  refine awp_loopH [7, 8, 9, 17, 18, 19, 20, 21, 22, 23, 24, 25, 26, 27, 28, 29, 30, 31, 32] [4] (α := Nat) (fun k => [(17, T.i (k : Int))]) (fun k => [(4, .box (outA (l.map vI) k))]) (fun k => k ≤ 61) (fun k => 61 - k) 0 (Nat.zero_le _) ?_ ?_
  · exact xh (ms := [4]) (by repeat (exact Out.refl _)) ⟨(by rfl), trivial⟩ ⟨(by rfl), trivial⟩
  ·
   intro k hk
   refine awp_seq ?_
   refine xa 1 ?_
   refine rg_q (q_lss rfl rfl) ?_
   refine rs (awp_cond rfl (fun hc7 => ?_) (fun hc7 => ?_))
   ·
    (try simp only [nb, ne_eq] at hc7)
    have hlt : k < 61 := by omega
    have hst := outA_set (S := l.map vI) hlt
    have hol := outA_len (S := l.map vI) (k := k) (by omega)
    refine awp_skip ?_
    change Awp _ _ _ _ _
    refine awp_seq ?_
    refine awp_block ?_
    refine awp_seq ?_
    refine xa 2 ?_
    refine rg_q (q_m rfl) (rg_q (q_a rfl) ?_)
    refine rs (xa 7 ?_)
    refine rg_q (q_m rfl) ?_
    refine rg_q (q_call en138 (.cons rfl (.cons rfl .nil)) rfl (tparts_p (l.map vI) hS2 hb2 k hlt)) ?_
    refine rg_q (q_move (x := .d (.tup _)) rfl) (rg_q (q_extract rfl rfl) (rg_q (q_extract rfl rfl) (rg_q (q_a rfl) (rg_q (q_a rfl) ?_))))
    refine rn ?_
    change Awp _ _ _ _ _
    refine xa 7 ?_
    refine rg_q (q_m rfl) (rg_q (q_m rfl) ?_)
    refine rg_q (q_convf int3 flt99 rfl) ?_
    refine rg_q (q_m rfl) ?_
    refine rg_q (q_convf int3 flt99 rfl) ?_
    refine rg_q (q_complex rfl rfl) ?_
    refine rg_q (q_indexAddr_aref ar146 rfl rfl (by omega) (by omega)) ?_
    refine rg_nil ?_
    refine aops_store (cs' := outA (l.map vI) (k + 1)) sz111 rfl rfl (by exact .inl rfl) rfl rfl (by rw [hol]; omega) hst ?_
    refine aops_nil ?_
    change Awp _ _ _ _ _
    refine xa 2 ?_
    refine rg_q (q_add rfl rfl xi) ?_
    refine rg_q (q_m rfl) ?_
    refine rn ?_
    refine ⟨k + 1, by omega, by omega, ?_⟩
    exact xh (ms := [4]) (by repeat (first | exact Out.head rfl rfl | (refine Out.put ?_ rfl) | (refine Out.site ?_ rfl))) ⟨(by rfl), trivial⟩ ⟨(by rfl), trivial⟩
   ·
    (try simp only [nb, ne_eq] at hc7)
    have hk61 : k = 61 := by omega
    subst hk61
    rw [outA_all]
    refine awp_exit ?_
    change Awp _ _ _ _ _
    refine awp_seq ?_
    refine xa 1 ?_
    refine rg_q (q_load_refA (ds := anL (l.map vI)) sz146 rfl rfl (by rw [List.drop_zero]; exact List.take_of_length_le (by rw [anL_len]; exact Nat.le_refl _)) (anL_len _)) ?_
    refine rg_nil ?_
    refine aops_store (cs' := anL (l.map vI)) sz146 rfl rfl (by exact .inr ⟨_, rfl⟩) (anL_len _) rfl (Nat.le_of_ble_eq_true rfl) (setCs_all (anL_len _)) ?_
    refine aops_q rfl (q_a rfl) ?_
    refine aops_nil ?_
    change Awp _ _ _ _ _
    refine awp_ret ?_
    refine ⟨_, (.cons (.cellA rfl rfl sz146 (anL_len _)) xk1), ?_⟩
    rfl
end Go.Proofs.YtcdccdcbfbakfaaGreatDoor.Am.M
-- mini
set_option maxRecDepth 100000
namespace Go.Proofs.YtcdccdcbfbakfaaGreatDoor.Am.M
open Go
theorem fwithin_p (n lo hi : Int) : PC Tryz.prog 43 [.v (.int .i64 (n)), .v (.int .i64 (lo)), .v (.int .i64 (hi))] (.v (.bool (inR lo n hi))) := by
 refine pc_of_awp Tryz.func43 rfl Tryz.ntmps43 (rs := [.tmp 6]) Tryz.results43 (by simp) fun w0 => ?_
 refine awp_seq ?_
 refine xa 1 ?_
 refine rg_q (q_a rfl) ?_
 refine rs (xa 9 ?_)
 refine rg_q (q_m rfl) (rg_q (q_m rfl) (rg_q (q_leq rfl rfl) (rg_q (q_m rfl) ?_)))
 refine rg_g rfl rfl (fun hG => (q_m rfl)) ?_
 refine rg_g rfl rfl (fun hG => (q_m rfl)) ?_
 refine rg_g rfl rfl (fun hG => (q_leq rfl rfl)) ?_
 refine rg_pick rfl rfl rfl rfl rfl rfl ?_
 refine rg_q (q_a rfl) ?_
 refine xc (awp_ret ?_)
 refine ⟨_, xk1, ?_⟩
 simp only [bif_and]; rfl
theorem fsmall_p (n m : Int) (h1 : 0 ≤ m) (h2 : m ≤ 1000000000000) : PC Tryz.prog 70 [.v (.int .i64 (n)), .v (.int .i64 (m))] (.v (.bool (inR (-m) n m))) := by
 refine pc_of_awp Tryz.func70 rfl Tryz.ntmps70 (rs := [.tmp 4]) Tryz.results70 (by simp) fun w0 => ?_
 refine awp_seq ?_
 refine xa 1 ?_
 refine rg_q (q_a rfl) ?_
 refine rs (xa 6 ?_)
 refine rg_q (q_m rfl) (rg_q (q_m rfl) ?_)
 refine rg_q (q_neg rfl xi) ?_
 refine rg_q (q_m rfl) ?_
 refine rg_q (q_call en43 (.cons rfl (.cons rfl (.cons rfl .nil))) rfl (fwithin_p _ _ _)) ?_
 refine rg_q (q_a rfl) ?_
 refine xc (awp_ret ?_)
 refine ⟨_, xk1, ?_⟩
 rfl
theorem ffirst_p (l : List Int) : PC Tryz.prog 85 [.sl 1 (l.map iC)] (.v (.int .i64 (firstE l))) := by
 refine pc_of_awp Tryz.func85 rfl Tryz.ntmps85 (rs := [.tmp 2]) Tryz.results85 (by simp) fun w0 => ?_
 refine awp_seq ?_
 refine xa 1 ?_
 refine rg_q (q_a rfl) ?_
 refine rs (awp_seq ?_)
 refine xa 3 ?_
 refine rg_q (q_move (x := .d (.sl _ _)) rfl) ?_
 refine rg_q (q_len isl199 rfl (by exact len_map _ _)) ?_
 refine rg_q (q_m rfl) ?_
 refine xc (awp_len (t := 5) rfl (fun hl5 => ?_))
 (try simp only [List.length_map] at hl5)
 refine awp_block ?_
 refine awp_loopH [2, 4, 7, 8, 9, 10, 11, 12, 13, 14] [] (α := Nat) (fun k => [(7, T.i (k : Int))]) (fun k => []) (fun k => k ≤ l.length ∧ firstE l = firstE (l.drop k)) (fun k => l.length - k) 0 ⟨Nat.zero_le _, rfl⟩ ?_ ?_
 · exact xh (ms := []) (by repeat (exact Out.refl _)) ⟨(by rfl), trivial⟩ trivial
 ·
  intro k ⟨hk, hf⟩
  refine awp_seq ?_
  refine xa 1 ?_
  refine rg_q (q_lss rfl rfl) ?_
  refine rs (awp_cond rfl (fun hc2 => ?_) (fun hc2 => ?_))
  ·
   (try simp only [nb, ne_eq] at hc2)
   have hlt : k < l.length := by omega
   have hx := List.getElem?_eq_getElem hlt
   have hd : firstE (l.drop k) = if l[k] = 0 then firstE (l.drop (k + 1)) else l[k] := by rw [List.drop_eq_getElem_cons hlt]; rfl
   generalize l[k] = x at *
   refine awp_skip ?_
   change Awp _ _ _ _ _
   refine awp_seq ?_
   refine awp_block ?_
   refine awp_seq ?_
   refine xa 3 ?_
   refine rg_q (q_indexAddr sl199 rfl rfl (by omega) (map_at (by omega) hx)) ?_
   refine rg_q (q_load sz29 rfl rfl) (rg_q (q_a rfl) ?_)
   refine rs (xa 2 ?_)
   refine rg_q (q_m rfl) (rg_q (q_neq rfl rfl) ?_)
   refine xc (awp_cond rfl (fun hc4 => ?_) (fun hc4 => ?_))
   ·
    (try simp only [nb, ne_eq] at hc4)
    refine awp_seq ?_
    refine xa 2 ?_
    refine rg_q (q_m rfl) (rg_q (q_a rfl) ?_)
    refine xc (awp_ret ?_)
    refine ⟨_, xk1, ?_⟩
    rw [hf, hd, if_neg hc4]; rfl
   ·
    (try simp only [nb, ne_eq] at hc4)
    refine awp_skip ?_
    change Awp _ _ _ _ _
    refine xa 2 ?_
    refine rg_q (q_add rfl rfl xi) ?_
    refine rg_q (q_m rfl) ?_
    refine rn ?_
    refine ⟨k + 1, ⟨by omega, by rw [hf, hd, if_pos hc4]⟩, by omega, ?_⟩
    exact xh (ms := []) (by repeat (first | exact Out.head rfl rfl | (refine Out.put ?_ rfl))) ⟨(by rfl), trivial⟩ trivial
  ·
   (try simp only [nb, ne_eq] at hc2)
   refine awp_exit ?_
   change Awp _ _ _ _ _
   refine awp_seq ?_
   refine xa 1 ?_
   refine rg_q (q_a rfl) ?_
   refine xc (awp_ret ?_)
   refine ⟨_, xk1, ?_⟩
   rw [hf, List.drop_of_length_le (by omega)]; rfl
theorem fwhen_p (b : Bool) (e : Int) : PC Tryz.prog 48 [.v (.bool (b)), .v (.int .i64 (e))] (.v (.int .i64 (whenI b e))) := by
 refine pc_of_awp Tryz.func48 rfl Tryz.ntmps48 (rs := [.tmp 4]) Tryz.results48 (by simp) fun w0 => ?_
 refine awp_seq ?_
 refine xa 1 ?_
 refine rg_q (q_a rfl) ?_
 refine rs (awp_seq ?_)
 refine xa 1 ?_
 refine rg_q (q_m rfl) ?_
 refine xc (awp_cond rfl (fun hc1 => ?_) (fun hc1 => ?_))
 ·
  (try simp only [nb, ne_eq] at hc1)
  have hz : whenI b e = e := by unfold whenI; rw [if_pos hc1]
  refine awp_seq ?_
  refine xa 2 ?_
  refine rg_q (q_m rfl) (rg_q (q_a rfl) ?_)
  refine xc (awp_ret ?_)
  refine ⟨_, xk1, ?_⟩
  rw [hz]; rfl
 ·
  (try simp only [nb, ne_eq] at hc1)
  have hz : whenI b e = 0 := by unfold whenI; rw [if_neg (by simpa using hc1)]
  refine awp_skip ?_
  change Awp _ _ _ _ _
  refine awp_seq ?_
  refine xa 1 ?_
  refine rg_q (q_a rfl) ?_
  refine xc (awp_ret ?_)
  refine ⟨_, xk1, ?_⟩
  rw [hz]; rfl

structure Grd where
  fx : Int
  fz : Int
  co : Int
  ro : Int
  st : Int
def grdC (g : Grd) : List D := [.v (.int .i64 g.fx), .v (.int .i64 g.fz), .v (.int .i64 g.co), .v (.int .i64 g.ro), .v (.int .i64 g.st)]
def spI (g : Grd) (c : Int) : Int × Int := (g.fx + c.tmod g.co * g.st, g.fz + c.tdiv g.co * g.st)
structure GrdOk (g : Grd) : Prop where
  x1 : -100000 ≤ g.fx
  x2 : g.fx ≤ 100000
  z1 : -100000 ≤ g.fz
  z2 : g.fz ≤ 100000
  c1 : 1 ≤ g.co
  c2 : g.co ≤ 40
  r1 : 1 ≤ g.ro
  r2 : g.ro ≤ 40
  s1 : 1 ≤ g.st
  s2 : g.st ≤ 10000
def grdB (g : Grd) : Bool := inR (-100000) g.fx 100000 && inR (-100000) g.fz 100000 && inR 1 g.co 40 && inR 1 g.ro 40 && inR 1 g.st 10000
theorem inR_iff {l h a : Int} : inR l a h = true ↔ l ≤ a ∧ a ≤ h := by unfold inR; simp
theorem grdB_ok {g : Grd} (h : grdB g = true) : GrdOk g := by
  unfold grdB at h
  simp only [Bool.and_eq_true, inR_iff] at h
  obtain ⟨⟨⟨⟨⟨a1, a2⟩, b1, b2⟩, c1, c2⟩, d1, d2⟩, e1, e2⟩ := h
  exact ⟨a1, a2, b1, b2, c1, c2, d1, d2, e1, e2⟩
theorem cells_in {g : Grd} (h : GrdOk g) : 1 ≤ g.co * g.ro ∧ g.co * g.ro ≤ 1600 := by
  obtain ⟨_, _, _, _, c1, c2, r1, r2, _, _⟩ := h
  have h1 := mulb (a := g.co) (b := g.ro) (A := 40) (B := 40) (by omega) (by omega) (by omega) (by omega)
  have h2 := Int.mul_le_mul c1 r1 (by omega) (by omega)
  omega
theorem tmodP_in {c b : Int} (hc : 0 ≤ c) (hb : 1 ≤ b) : 0 ≤ c.tmod b ∧ c.tmod b < b := ⟨Int.tmod_nonneg _ hc, Int.tmod_lt_of_pos _ (by omega)⟩
theorem tdivP_in {c b : Int} (hc : 0 ≤ c) (hb : 1 ≤ b) : 0 ≤ c.tdiv b ∧ c.tdiv b ≤ c := by
  rw [Int.tdiv_eq_ediv_of_nonneg hc]
  exact ⟨Int.ediv_nonneg hc (by omega), Int.ediv_le_self _ hc⟩
theorem spot_in {g : Grd} (h : GrdOk g) {c : Int} (h1 : 0 ≤ c) (h2 : c ≤ 10000) : (0 ≤ c.tmod g.co * g.st ∧ c.tmod g.co * g.st ≤ 1000000) ∧ 0 ≤ c.tdiv g.co * g.st ∧ c.tdiv g.co * g.st ≤ 100000000 := by
  obtain ⟨_, _, _, _, c1, c2, r1, r2, s1, s2⟩ := h
  obtain ⟨m1, m2⟩ := tmodP_in h1 c1
  obtain ⟨d1, d2⟩ := tdivP_in h1 c1
  have a1 := mulb (a := c.tmod g.co) (b := g.st) (A := 100) (B := 10000) (by omega) (by omega) (by omega) (by omega)
  have a2 := mulb (a := c.tdiv g.co) (b := g.st) (A := 10000) (B := 10000) (by omega) (by omega) (by omega) (by omega)
  have a3 := Int.mul_nonneg m1 (show 0 ≤ g.st by omega)
  have a4 := Int.mul_nonneg d1 (show 0 ≤ g.st by omega)
  omega
theorem fcells_p (g : Grd) (hg : GrdOk g) : PC Tryz.prog 47 [.agg (grdC g)] (.v (.int .i64 (g.co * g.ro))) := by
 have hci := cells_in hg
 obtain ⟨x1, x2, z1, z2, c1, c2, r1, r2, s1, s2⟩ := hg
 refine pc_of_awp Tryz.func47 rfl Tryz.ntmps47 (rs := [.tmp 2]) Tryz.results47 (by simp) fun w0 => ?_
 refine awp_seq ?_
 refine xa 2 ?_
 refine rg_q (q_box rfl (by exact .inr ⟨_, rfl⟩)) ?_
 refine rg_q (q_a rfl) ?_
 refine rs (xa 8 ?_)
 refine rg_q (q_fieldAddr fld70_0 rfl) (rg_q (q_fieldAddr fld25_1 rfl) (rg_q (q_load sz3 rfl rfl) (rg_q (q_fieldAddr fld70_0 rfl) (rg_q (q_fieldAddr fld25_2 rfl) (rg_q (q_load sz3 rfl rfl) ?_)))))
 refine rg_q (q_mul rfl rfl xi) ?_
 refine rg_q (q_a rfl) ?_
 refine xc (awp_ret ?_)
 refine ⟨_, xk1, ?_⟩
 rfl
theorem fspot_p (g : Grd) (c : Int) (hg : GrdOk g) (h1 : 0 ≤ c) (h2 : c ≤ 10000) : PC Tryz.prog 67 [.agg (grdC g), .v (.int .i64 (c))] (.agg (shC (spI g c))) := by
 have hsi := spot_in hg h1 h2
 obtain ⟨x1, x2, z1, z2, c1, c2, r1, r2, s1, s2⟩ := hg
 obtain ⟨m1, m2⟩ := tmodP_in h1 c1
 obtain ⟨d1, d2⟩ := tdivP_in h1 c1
 obtain ⟨⟨a1, a2⟩, a3, a4⟩ := hsi
 refine pc_of_awp Tryz.func67 rfl Tryz.ntmps67 (rs := [.cell 4 23]) Tryz.results67 (by simp) fun w0 => ?_
 refine awp_seq ?_
 refine xa 1 ?_
 refine rg_q (q_box rfl (by exact .inr ⟨_, rfl⟩)) ?_
 refine rg_nil ?_
 refine aops_alloc zr23 rfl rfl rfl ?_
 refine aops_nil (xq (xa 29 ?_))
 refine rg_q (q_fieldAddr fld70_0 rfl) (rg_q (q_fieldAddr fld25_0 rfl) (rg_q (q_fieldAddr fld23_0 rfl) (rg_q (q_load sz3 rfl rfl) (rg_q (q_m rfl) (rg_q (q_fieldAddr fld70_0 rfl) ?_)))))
 refine rg_q (q_fieldAddr fld25_1 rfl) (rg_q (q_load sz3 rfl rfl) ?_)
 refine rg_q (q_rem rfl rfl (by omega)) ?_
 refine rg_q (q_fieldAddr fld70_0 rfl) (rg_q (q_fieldAddr fld25_3 rfl) (rg_q (q_load sz3 rfl rfl) ?_))
 refine rg_q (q_mul rfl rfl xi) ?_
 refine rg_q (q_add rfl rfl xi) ?_
 refine rg_q (q_fieldAddr fld70_0 rfl) (rg_q (q_fieldAddr fld25_0 rfl) (rg_q (q_fieldAddr fld23_1 rfl) (rg_q (q_load sz3 rfl rfl) (rg_q (q_m rfl) (rg_q (q_fieldAddr fld70_0 rfl) ?_)))))
 refine rg_q (q_fieldAddr fld25_1 rfl) (rg_q (q_load sz3 rfl rfl) ?_)
 refine rg_q (q_quo rfl rfl (by omega) xi) ?_
 refine rg_q (q_fieldAddr fld70_0 rfl) (rg_q (q_fieldAddr fld25_3 rfl) (rg_q (q_load sz3 rfl rfl) ?_))
 refine rg_q (q_mul rfl rfl xi) ?_
 refine rg_q (q_add rfl rfl xi) ?_
 refine rg_q (q_build (cs := [_, _]) pl23 zr23 rfl (.cons rfl (by exact .inl rfl) (.cons rfl (by exact .inl rfl) .nil)) ⟨⟨rfl, by decide⟩, ⟨rfl, by decide⟩, trivial⟩ rfl) ?_
 refine rg_nil ?_
 refine aops_store sz23 rfl rfl (by exact .inr ⟨_, rfl⟩) rfl rfl (by decide) rfl ?_
 refine aops_nil ?_
 change Awp _ _ _ _ _
 refine awp_ret ?_
 refine ⟨_, (.cons (.cellA rfl rfl sz23 rfl) .nil), ?_⟩
 rfl

def clE (g : Grd) (c : Int) : Int := whenI (!inR 0 c (g.co * g.ro - 1)) 6
def ckG (g : Grd) : Int := if grdB g = true then whenI (decide (100000 < (spI g (g.co * g.ro - 1)).1) || decide (100000 < (spI g (g.co * g.ro - 1)).2)) 8 else 2
theorem ckG_ok {g : Grd} (h : ckG g = 0) : GrdOk g ∧ (spI g (g.co * g.ro - 1)).1 ≤ 100000 ∧ (spI g (g.co * g.ro - 1)).2 ≤ 100000 := by
  unfold ckG at h
  by_cases h1 : grdB g = true
  · rw [if_pos h1, when_zero (by decide)] at h
    simp only [Bool.or_eq_false_iff, decide_eq_false_iff_not] at h
    exact ⟨grdB_ok h1, by omega, by omega⟩
  · rw [if_neg h1] at h; cases h
theorem fcellErr_p (g : Grd) (c : Int) (hg : GrdOk g) : PC Tryz.prog 86 [.agg (grdC g), .v (.int .i64 (c))] (.v (.int .i64 (clE g c))) := by
 have hci := cells_in hg
 refine pc_of_awp Tryz.func86 rfl Tryz.ntmps86 (rs := [.tmp 4]) Tryz.results86 (by simp) fun w0 => ?_
 refine awp_seq ?_
 refine xa 2 ?_
 refine rg_q (q_box rfl (by exact .inr ⟨_, rfl⟩)) ?_
 refine rg_q (q_a rfl) ?_
 refine rs (xa 8 ?_)
 refine rg_q (q_m rfl) ?_
 refine rg_q (q_loadA (ds := [_, _, _, _, _]) sz70 rfl rfl rfl) ?_
 refine rg_q (q_call en47 (.cons rfl .nil) rfl (fcells_p _ (by assumption))) ?_
 refine rg_q (q_sub rfl rfl xi) ?_
 refine rg_q (q_call en43 (.cons rfl (.cons rfl (.cons rfl .nil))) rfl (fwithin_p _ _ _)) ?_
 refine rg_q (q_not rfl) ?_
 refine rg_q (q_call en48 (.cons rfl (.cons rfl .nil)) rfl (fwhen_p _ _)) ?_
 refine rg_q (q_a rfl) ?_
 refine xc (awp_ret ?_)
 refine ⟨_, xk1, ?_⟩
 rfl
theorem fcheckGrid_p (g : Grd) : PC Tryz.prog 46 [.agg (grdC g)] (.v (.int .i64 (ckG g))) := by
 refine pc_of_awpN Tryz.func46 rfl Tryz.ntmps46 (rs := [.tmp 2]) Tryz.results46 (by simp) fun w0 hmine hrnd hpn => ?_
 refine awp_seq ?_
 refine xa 2 ?_
 refine rg_q (q_box rfl (by exact .inr ⟨_, rfl⟩)) ?_
 refine rg_q (q_a rfl) ?_
 refine rs (awp_seq ?_)
 refine xa 30 ?_
 refine rg_q (q_fieldAddr fld25_0 rfl) (rg_q (q_fieldAddr fld23_0 rfl) (rg_q (q_load sz3 rfl rfl) ?_))
 refine rg_q (q_call en70 (.cons rfl (.cons rfl .nil)) rfl (fsmall_p _ _ (by omega) (by omega))) ?_
 refine rg_q (q_not rfl) (rg_q (q_m rfl) ?_)
 refine rg_g rfl rfl (fun hG => (q_fieldAddr fld25_0 rfl)) ?_
 refine rg_g rfl rfl (fun hG => (q_fieldAddr fld23_1 rfl)) ?_
 refine rg_g rfl rfl (fun hG => (q_load sz3 rfl rfl)) ?_
 refine rg_g rfl rfl (fun hG => (q_call en70 (.cons rfl (.cons rfl .nil)) rfl (fsmall_p _ _ (by omega) (by omega)))) ?_
 refine rg_g rfl rfl (fun hG => (q_not rfl)) ?_
 refine rg_pick rfl rfl rfl rfl rfl rfl ?_
 refine rg_q (q_m rfl) ?_
 refine rg_g rfl rfl (fun hG => (q_fieldAddr fld25_1 rfl)) ?_
 refine rg_g rfl rfl (fun hG => (q_load sz3 rfl rfl)) ?_
 refine rg_g rfl rfl (fun hG => (q_call en43 (.cons rfl (.cons rfl (.cons rfl .nil))) rfl (fwithin_p _ _ _))) ?_
 refine rg_g rfl rfl (fun hG => (q_not rfl)) ?_
 refine rg_pick rfl rfl rfl rfl rfl rfl ?_
 refine rg_q (q_m rfl) ?_
 refine rg_g rfl rfl (fun hG => (q_fieldAddr fld25_2 rfl)) ?_
 refine rg_g rfl rfl (fun hG => (q_load sz3 rfl rfl)) ?_
 refine rg_g rfl rfl (fun hG => (q_call en43 (.cons rfl (.cons rfl (.cons rfl .nil))) rfl (fwithin_p _ _ _))) ?_
 refine rg_g rfl rfl (fun hG => (q_not rfl)) ?_
 refine rg_pick rfl rfl rfl rfl rfl rfl ?_
 refine rg_q (q_m rfl) ?_
 refine rg_g rfl rfl (fun hG => (q_fieldAddr fld25_3 rfl)) ?_
 refine rg_g rfl rfl (fun hG => (q_load sz3 rfl rfl)) ?_
 refine rg_g rfl rfl (fun hG => (q_call en43 (.cons rfl (.cons rfl (.cons rfl .nil))) rfl (fwithin_p _ _ _))) ?_
 refine rg_g rfl rfl (fun hG => (q_not rfl)) ?_
 refine rg_pick rfl rfl rfl rfl rfl rfl ?_
 refine xc (awp_cond rfl (fun hc1 => ?_) (fun hc1 => ?_))
 ·
  (try simp only [nb, ne_eq] at hc1)
  have hb : grdB g = false := by
   cases q : grdB g with
   | false => rfl
   | true => unfold grdB at q; simp_all
  have hz : ckG g = 2 := by unfold ckG; rw [hb]; rfl
  refine awp_seq ?_
  refine xa 1 ?_
  refine rg_q (q_a rfl) ?_
  refine xc (awp_ret ?_)
  refine ⟨_, xk1, ?_⟩
  rw [hz]; (try simp only [bif_or]); rfl
 ·
  (try simp only [nb, ne_eq] at hc1)
  have hb : grdB g = true := by unfold grdB; simp_all
  have hg := grdB_ok hb
  have hci := cells_in hg
  have hz : ckG g = whenI (decide (100000 < (spI g (g.co * g.ro - 1)).1) || decide (100000 < (spI g (g.co * g.ro - 1)).2)) 8 := by unfold ckG; rw [if_pos hb]
  refine awp_skip ?_
  change Awp _ _ _ _ _
  refine awp_seq ?_
  refine xa 2 ?_
  refine rg_q (q_loadA (ds := [_, _, _, _, _]) sz25 rfl rfl rfl) ?_
  refine rg_q (q_build (cs := [_, _, _, _, _]) pl70 zr70 rfl (.cons rfl (by exact .inr ⟨_, rfl⟩) .nil) ⟨⟨rfl, by decide⟩, trivial⟩ rfl) ?_
  refine rg_nil ?_
  refine aops_allocD zr70 rfl sz70 rfl rfl (by exact .inr ⟨_, rfl⟩) rfl rfl ?_
  refine aops_nil (xq (awp_regionM 7 [none, none, none, none, none, some 4, some 4] mixed (by kernel_rfl) ?_))
  refine rgm_q rfl (q_loadA (ds := [_, _, _, _, _]) sz70 rfl rfl rfl) ?_
  refine rgm_q rfl (q_loadA (ds := [_, _, _, _, _]) sz70 rfl rfl rfl) ?_
  refine rgm_q rfl (q_call en47 (.cons rfl .nil) rfl (fcells_p _ (by assumption))) ?_
  refine rgm_q rfl (q_sub rfl rfl xi) ?_
  refine rgm_q rfl (q_call en67 (.cons rfl (.cons rfl .nil)) rfl (fspot_p _ _ (by assumption) (by omega) (by omega))) ?_
  refine rgm_m (k := 4) rfl rfl (by rfl) (m_alloc zr23 rfl rfl) ?_
  refine rgm_m (k := 4) rfl rfl (by rfl) (m_store sz23 rfl rfl (by exact .inr ⟨_, rfl⟩) rfl rfl (by decide) rfl) ?_
  refine rgm_nil (aops_nil ?_)
  change Awp _ _ _ _ _
  refine awp_seq ?_
  refine xa 10 ?_
  refine rg_q (q_fieldAddr_ref fld23_0 rfl) (rg_q (q_load_ref sz3 rfl rfl rfl) (rg_q (q_gtr rfl rfl) (rg_q (q_m rfl) ?_)))
  refine rg_g rfl rfl (fun hG => (q_fieldAddr_ref fld23_1 rfl)) ?_
  refine rg_g rfl rfl (fun hG => (q_load_ref sz3 rfl rfl rfl)) ?_
  refine rg_g rfl rfl (fun hG => (q_gtr rfl rfl)) ?_
  refine rg_pick rfl rfl rfl rfl rfl rfl ?_
  refine rg_q (q_call en48 (.cons rfl (.cons rfl .nil)) rfl (fwhen_p _ _)) ?_
  refine rg_q (q_a rfl) ?_
  refine xc (awp_ret ?_)
  refine ⟨_, xk1, ?_⟩
  rw [hz]; (try simp only [bif_or]); rfl
end Go.Proofs.YtcdccdcbfbakfaaGreatDoor.Am.M
-- mini
set_option maxRecDepth 100000
namespace Go.Proofs.YtcdccdcbfbakfaaGreatDoor.Am.M
open Go

structure Tsk where
  ar : Arr
  ne : Int
  bf : List Nat
  g : Grd
def mtxC (ne : Int) (bf : List Nat) : List D := [.v (.int .i64 ne), .sl 1 (bf.map fC)]
def tskC (t : Tsk) : List D := arrC t.ar ++ mtxC t.ne t.bf ++ grdC t.g
structure TskOk (t : Tsk) : Prop where
  ck : (ckArr t.ar).2 = 0
  n1 : 1 ≤ t.ne
  n2 : t.ne ≤ 16
  nl : (t.bf.length : Int) = t.ne * t.ne * 64
  wh : WhlL t.bf
  el : (t.ar.el.length : Int) = t.ne
  gr : ckG t.g = 0
  z1 : 1 ≤ t.g.fz
  z2 : t.g.fz ≤ t.ar.ou.t - 1
  z3 : 1 ≤ (spI t.g (t.g.co * t.g.ro - 1)).2
  z4 : (spI t.g (t.g.co * t.g.ro - 1)).2 ≤ t.ar.ou.t - 1
theorem ckArr_zero {a : Arr} (h : (ckArr a).2 = 0) : ckArr a = (0, 0) := by
  unfold ckArr at h ⊢
  by_cases h1 : a.el.length = 0
  · rw [if_pos h1] at h; cases h
  rw [if_neg h1] at h ⊢
  by_cases h2 : 16 < a.el.length
  · rw [if_pos h2] at h; cases h
  rw [if_neg h2] at h ⊢
  by_cases h3 : (ckEls 0 a.el).2 ≠ 0
  · rw [if_pos h3] at h; exact absurd h h3
  rw [if_neg h3] at h ⊢
  have h4 : arrE0 a = 0 := h
  rw [h4]
theorem checkTask_p (t : Tsk) (h : TskOk t) : PC Tryz.prog 108 [.agg (tskC t)] (.tup [.v (.int .i64 (0)), .v (.int .i64 (0))]) := by
 have hck := ckArr_zero h.ck
 obtain ⟨hao, _⟩ := ckArr_ok h.ck
 have hn1 := h.n1
 have hn2 := h.n2
 have hnl := h.nl
 have hwh := h.wh
 have hel := h.el
 obtain ⟨hg, hg1, hg2⟩ := ckG_ok h.gr
 have hci := cells_in hg
 have hz1 : inR 1 t.g.fz (t.ar.ou.t - 1) = true := inR_iff.2 ⟨h.z1, h.z2⟩
 have hz2 : inR 1 (spI t.g (t.g.co * t.g.ro - 1)).2 (t.ar.ou.t - 1) = true := inR_iff.2 ⟨h.z3, h.z4⟩
 have hgr := h.gr
 have ht1 := hao.ou.t1
 have ht2 := hao.ou.t2
 refine pc_of_awpN Tryz.func108 rfl Tryz.ntmps108 (rs := [.tmp 2, .tmp 3]) Tryz.results108 (by simp) fun w0 hmine hrnd hpn => ?_
 refine awp_seq ?_
 refine xa 3 ?_
 refine rg_q (q_box rfl (by exact .inr ⟨_, rfl⟩)) ?_
 refine rg_q (q_a rfl) (rg_q (q_a rfl) ?_)
 refine rs (awp_seq ?_)
 refine xa 8 ?_
 refine rg_q (q_fieldAddr fld55_0 rfl) ?_
 refine rg_q (q_loadA (ds := [_, _, _, _, _, _, _, _, _, _, _]) sz50 rfl rfl rfl) ?_
 refine rg_q (q_call en112 (.cons rfl .nil) rfl ((by have h := checkArray_p t.ar; rw [hck] at h; exact h))) ?_
 refine rg_q (q_move (x := .d (.tup _)) rfl) (rg_q (q_extract rfl rfl) (rg_q (q_extract rfl rfl) (rg_q (q_a rfl) (rg_q (q_a rfl) ?_))))
 refine rs (xa 2 ?_)
 refine rg_q (q_m rfl) (rg_q (q_neq rfl rfl) ?_)
 refine xc (awp_cond rfl (fun hc2 => ?_) (fun hc2 => ?_))
 ·
  simp at hc2
 ·
  (try simp only [nb, ne_eq] at hc2)
  refine awp_skip ?_
  change Awp _ _ _ _ _
  refine awp_seq ?_
  refine awp_seq ?_
  refine xa 8 ?_
  refine rg_q (q_fieldAddr fld55_1 rfl) ?_
  refine rg_q (q_loadA (ds := [_, _]) sz53 rfl rfl rfl) ?_
  refine rg_q (q_call en134 (.cons rfl .nil) rfl (checkMatrix_p t.ne t.bf hn1 hn2 hnl hwh)) ?_
  refine rg_q (q_move (x := .d (.tup _)) rfl) (rg_q (q_extract rfl rfl) (rg_q (q_extract rfl rfl) (rg_q (q_a rfl) (rg_q (q_a rfl) ?_))))
  refine rs (xa 2 ?_)
  refine rg_q (q_m rfl) (rg_q (q_neq rfl rfl) ?_)
  refine xc (awp_cond rfl (fun hc5 => ?_) (fun hc5 => ?_))
  ·
   simp at hc5
  ·
   (try simp only [nb, ne_eq] at hc5)
   refine awp_skip ?_
   change Awp _ _ _ _ _
   refine awp_seq ?_
   refine awp_seq ?_
   refine xa 8 ?_
   refine rg_q (q_fieldAddr fld55_0 rfl) (rg_q (q_fieldAddr fld50_0 rfl) (rg_q (q_load sz44 rfl rfl) ?_))
   refine rg_q (q_len isl44 rfl (by exact len_map _ _)) ?_
   refine rg_q (q_fieldAddr fld55_1 rfl) (rg_q (q_fieldAddr fld53_0 rfl) (rg_q (q_load sz3 rfl rfl) (rg_q (q_neq rfl rfl) ?_)))
   refine xc (awp_len (t := 32) rfl (fun hl32 => ?_))
   (try simp only [List.length_map] at hl32)
   refine awp_cond rfl (fun hc7 => ?_) (fun hc7 => ?_)
   ·
    rw [decide_eq_true_eq] at hc7
    exact absurd hel hc7
   ·
    (try simp only [nb, ne_eq] at hc7)
    refine awp_skip ?_
    change Awp _ _ _ _ _
    refine awp_seq ?_
    refine awp_seq ?_
    refine xa 4 ?_
    refine rg_q (q_fieldAddr fld55_2 rfl) ?_
    refine rg_q (q_loadA (ds := [_, _, _, _, _]) sz25 rfl rfl rfl) ?_
    refine rg_q (q_call en46 (.cons rfl .nil) rfl ((by have h := fcheckGrid_p t.g; rw [hgr] at h; exact h))) ?_
    refine rg_q (q_a rfl) ?_
    refine rs (xa 2 ?_)
    refine rg_q (q_m rfl) (rg_q (q_neq rfl rfl) ?_)
    refine xc (awp_cond rfl (fun hc10 => ?_) (fun hc10 => ?_))
    ·
     simp at hc10
    ·
     (try simp only [nb, ne_eq] at hc10)
     refine awp_skip ?_
     change Awp _ _ _ _ _
     refine awp_seq ?_
     refine xa 3 ?_
     refine rg_q (q_fieldAddr fld55_2 rfl) ?_
     refine rg_q (q_loadA (ds := [_, _, _, _, _]) sz25 rfl rfl rfl) ?_
     refine rg_q (q_build (cs := [_, _, _, _, _]) pl70 zr70 rfl (.cons rfl (by exact .inr ⟨_, rfl⟩) .nil) ⟨⟨rfl, by decide⟩, trivial⟩ rfl) ?_
     refine rg_nil ?_
     refine aops_allocD zr70 rfl sz70 rfl rfl (by exact .inr ⟨_, rfl⟩) rfl rfl ?_
     refine aops_nil (xq (xa 5 ?_))
     refine rg_q (q_fieldAddr fld55_0 rfl) (rg_q (q_fieldAddr fld50_1 rfl) (rg_q (q_fieldAddr fld46_3 rfl) (rg_q (q_load sz3 rfl rfl) (rg_q (q_a rfl) ?_))))
     refine rs (xa 23 ?_)
     refine rg_q (q_fieldAddr fld55_2 rfl) (rg_q (q_fieldAddr fld25_0 rfl) (rg_q (q_fieldAddr fld23_1 rfl) (rg_q (q_load sz3 rfl rfl) (rg_q (q_m rfl) ?_))))
     refine rg_q (q_sub rfl rfl xi) ?_
     refine rg_q (q_call en43 (.cons rfl (.cons rfl (.cons rfl .nil))) rfl (fwithin_p _ _ _)) ?_
     refine rg_q (q_not rfl) (rg_q (q_m rfl) ?_)
     refine rg_g rfl rfl (fun hG => (q_loadA (ds := [_, _, _, _, _]) sz70 rfl rfl rfl)) ?_
     refine rg_g rfl rfl (fun hG => (q_loadA (ds := [_, _, _, _, _]) sz70 rfl rfl rfl)) ?_
     refine rg_g rfl rfl (fun hG => (q_call en47 (.cons rfl .nil) rfl (fcells_p _ (by assumption)))) ?_
     refine rg_g rfl rfl (fun hG => (q_sub rfl rfl (In64.mk (by (have hg0 := T.bool_inj (a := _) hG.1; (try simp only [nb, ne_eq] at hg0); omega)) (by (have hg0 := T.bool_inj (a := _) hG.1; (try simp only [nb, ne_eq] at hg0); omega))))) ?_
     refine rg_g rfl rfl (fun hG => (q_call en67 (.cons rfl (.cons rfl .nil)) rfl (fspot_p _ _ (by assumption) (by omega) (by omega)))) ?_
     refine rg_g rfl rfl (fun hG => (q_field fd23_1 sz3 rfl rfl)) ?_
     refine rg_g rfl rfl (fun hG => (q_m rfl)) ?_
     refine rg_g rfl rfl (fun hG => (q_sub rfl rfl (In64.mk (by (have hg0 := T.bool_inj (a := _) hG.1; (try simp only [nb, ne_eq] at hg0); omega)) (by (have hg0 := T.bool_inj (a := _) hG.1; (try simp only [nb, ne_eq] at hg0); omega))))) ?_
     refine rg_g rfl rfl (fun hG => (q_call en43 (.cons rfl (.cons rfl (.cons rfl .nil))) rfl (fwithin_p _ _ _))) ?_
     refine rg_g rfl rfl (fun hG => (q_not rfl)) ?_
     refine rg_pick rfl rfl rfl rfl rfl rfl ?_
     refine rg_q (q_call en48 (.cons rfl (.cons rfl .nil)) rfl (fwhen_p _ _)) ?_
     refine rg_q (q_a rfl) (rg_q (q_a rfl) ?_)
     refine xc (awp_ret ?_)
     refine ⟨_, xk2, ?_⟩
     simp [whenI, hz1, hz2, retD]
end Go.Proofs.YtcdccdcbfbakfaaGreatDoor.Am.M
-- mini
set_option maxRecDepth 100000
namespace Go.Proofs.YtcdccdcbfbakfaaGreatDoor.Am.M
open Go

def chK (l : List Nat) (i : Nat) : List Nat := (l.take (64 * i + 64)).drop (64 * i)
def chF (l : List Nat) (i : Nat) : List (List Nat) := (List.range i).map (chK l)
def encK (b : List Nat) : List D := [.sl 1 (b.map fC)]
theorem chF_succ (l : List Nat) (i : Nat) : chF l (i + 1) = chF l i ++ [chK l i] := by unfold chF; rw [List.range_succ, List.map_append]; rfl
theorem chF_pre {l : List Nat} {i : Nat} : ∀ {m : Nat}, i ≤ m → chF l i <+: chF l m
  | 0, h => by have : i = 0 := by omega
               subst this; exact List.prefix_rfl
  | m + 1, h => by
    by_cases e : i = m + 1
    · subst e; exact List.prefix_rfl
    · rw [chF_succ]; exact (chF_pre (show i ≤ m by omega)).trans (List.prefix_append _ _)
theorem chK_len {l : List Nat} {i m : Nat} (h : l.length = 64 * m) (hi : i < m) : (chK l i).length = 64 := by
  unfold chK
  rw [List.length_drop, List.length_take]; omega
theorem chK_row (l : List Nat) (i : Nat) : ((l.map fC).take (64 * i + 64)).drop (64 * i) = (chK l i).map fC := by unfold chK; rw [List.map_drop, List.map_take]
theorem chK_wh {l : List Nat} (h : WhlL l) (i : Nat) : WhlL (chK l i) := fun b hb => h b (List.mem_of_mem_take (List.mem_of_mem_drop hb))
theorem chunk_i (l : List Nat) (m : Nat) (h1 : l.length = 64 * m) (h2 : m ≤ 10000) : PI Tryz.prog 135 [] [.pt [.sl 1 (l.map fC)] 0, .pt [.v (.int .i64 (64))] 0] (encK) (chF l m) true := by
  refine pi_of_iwp Tryz.func135 rfl Tryz.ntmps135 rfl rfl fun J c l0 hJ hy hdat hfin => ?_
  refine iwp_seq ?_
  apply iwp_reg hJ
  ·
    intro c1 hmine hrnd
    refine xa 1 ?_
    refine rg_q (q_a rfl) ?_
    refine rn ?_
    exact ⟨rfl, rfl⟩
  change Iwp _ _ _ _ _ _ _
  refine iwp_block ?_
  refine iwp_loopH [4, 5, 6, 7, 8, 9, 10, 11, 12, 13, 14, 15, 16, 17, 18, 19, 20, 21, 22, 23, 24, 25, 26, 27, 28, 29, 30] [] (β := Nat) (fun i => [(4, T.i ((64 * i : Nat) : Int))]) (fun i => []) (fun i => (true, chF l i)) (fun i => i ≤ m) (fun i => m - i) 0 (Nat.zero_le _) rfl (fun c1 => ?_) ?_
  · exact xh (ms := []) (by repeat (exact Out.refl _)) ⟨(by rfl), trivial⟩ trivial
  ·
    intro i hi
    refine iwp_seq ?_
    refine iwp_seq ?_
    apply iwp_reg hJ
    ·
      intro c1 hmine hrnd
      refine xa 4 ?_
      refine rg_q (q_m rfl) (rg_q (q_load sz51 rfl rfl) ?_)
      refine rg_q (q_len isl51 rfl (by exact len_map _ _)) ?_
      refine rg_q (q_lss rfl rfl) ?_
      refine rn ?_
      exact ⟨rfl, rfl⟩
    change Iwp _ _ _ _ _ _ _
    refine iwp_len (t := 7) rfl (fun hl7 => ?_)
    (try simp only [List.length_map] at hl7)
    refine iwp_cond rfl (fun hc1 => ?_) (fun hc1 => ?_)
    ·
      (try simp only [nb, ne_eq] at hc1)
      have hlt : i < m := by omega
      have hpre : chF l i ++ [chK l i] <+: chF l m := by rw [← chF_succ]; exact chF_pre hlt
      have hmn : min (64 : Int) ((List.drop (64 * i) (List.take (l.map fC).length l)).length : Int) = 64 := by rw [List.length_map, List.take_length, List.length_drop]; omega
      have hpl : ((64 * i : Nat) : Int) + 64 = ((64 * i + 64 : Nat) : Int) := by omega
      refine iwp_skip ?_
      change Iwp _ _ _ _ _ _ _
      refine iwp_seq ?_
      refine iwp_block ?_
      refine iwp_seq ?_
      apply iwp_reg hJ
      ·
        intro c1 hmine hrnd
        refine xa 7 ?_
        refine rg_q (q_load sz3 rfl rfl) (rg_q (q_load sz51 rfl rfl) (rg_q (q_m rfl) ?_))
        refine rg_q (q_slice sl51 rfl rfl rfl (by rw [List.length_map]; omega) (Nat.le_refl _) (by exact map_slice _ _ _ _)) ?_
        refine rg_q (q_len isl51 rfl (by exact len_map _ _)) ?_
        refine rg_q (q_min rfl rfl) ?_
        refine rg_q (q_a rfl) ?_
        refine rn ?_
        exact ⟨rfl, rfl⟩
      change Iwp _ _ _ _ _ _ _
      refine iwp_len (t := 16) rfl (fun hl16 => ?_)
      (try simp only [List.length_map] at hl16)
      refine iwp_seq ?_
      rw [hmn]
      refine iwp_region ?_
      refine iops_of hJ rfl (fun c1 _ _ _ h => by exact aops_q rfl ((q_move (x := .d (.fn _ _)) rfl)) h) ?_
      refine iops_of hJ rfl (fun c1 _ _ _ h => by exact aops_q rfl ((q_load sz51 rfl rfl)) h) ?_
      refine iops_of hJ rfl (fun c1 _ _ _ h => by exact aops_q rfl ((q_m rfl)) h) ?_
      refine iops_of hJ rfl (fun c1 _ _ _ h => by exact aops_q rfl ((q_m rfl)) h) ?_
      refine iops_of hJ rfl (fun c1 _ _ _ h => by exact aops_q rfl ((q_m rfl)) h) ?_
      refine iops_of hJ rfl (fun c1 _ _ _ h => by exact aops_q rfl ((q_add rfl rfl xi)) h) ?_
      refine iops_of hJ rfl (fun c1 _ _ _ h => by exact aops_q rfl ((q_m rfl)) h) ?_
      refine iops_of hJ rfl (fun c1 _ _ _ h => by exact aops_q rfl ((q_m rfl)) h) ?_
      refine iops_of hJ rfl (fun c1 _ _ _ h => by exact aops_q rfl ((q_add rfl rfl xi)) h) ?_
      rw [hpl]
      refine iops_of hJ rfl (fun c1 _ _ _ h => by exact aops_q rfl ((q_slice3d (lo := 64 * i) (hi := 64 * i + 64) (es' := (chK l i).map fC) sl51 rfl rfl rfl rfl (by omega) (by rw [List.length_map]; omega) (chK_row l i))) h) ?_
      refine iops_yield (x := (chK l i)) hy hdat rfl (.cons rfl .nil) hpre rfl (fun yb => ?_)
      refine iops_of hJ rfl (fun c1 _ _ _ h => by exact aops_q rfl ((q_not rfl)) h) ?_
      refine iops_nil ?_
      change Iwp _ _ _ _ _ _ _
      refine iwp_cond rfl (fun hc4 => ?_) (fun hc4 => ?_)
      ·
        (try simp only [nb, ne_eq] at hc4)
        have hyb : yb = false := by cases yb <;> first | rfl | (exfalso; simp_all; done)
        refine iwp_ret ?_
        exact ⟨.inl rfl, fun h => by rw [hyb] at h; cases h⟩
      ·
        (try simp only [nb, ne_eq] at hc4)
        have hyb : yb = true := by cases yb <;> first | rfl | (exfalso; simp_all; done)
        refine iwp_skip ?_
        change Iwp _ _ _ _ _ _ _
        apply iwp_reg hJ
        ·
          intro c1 hmine hrnd
          refine xa 4 ?_
          refine rg_q (q_m rfl) (rg_q (q_load sz3 rfl rfl) ?_)
          refine rg_q (q_add rfl rfl xi) ?_
          refine rg_q (q_a rfl) ?_
          refine rn ?_
          exact ⟨rfl, rfl⟩
        refine ⟨i + 1, by omega, by omega, by rw [hyb, chF_succ], fun c1 => ?_⟩
        exact xh (ms := []) (by repeat (first | exact Out.head rfl rfl | (refine Out.put ?_ rfl))) ⟨(by rfl), trivial⟩ trivial
    ·
      (try simp only [nb, ne_eq] at hc1)
      have him : i = m := by omega
      refine iwp_exit ?_
      exact ⟨.inr rfl, fun _ => by rw [him]⟩
end Go.Proofs.YtcdccdcbfbakfaaGreatDoor.Am.M
