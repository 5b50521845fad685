/- Contracts over the abstract machine, joined. Conditions: none. -/
import Derived.Test.YtamaocfjknpadaaGreatJ1
import Derived.WalkKit
import Derived.Lib.Mul64
import Derived.Laws.Bits64b
set_option linter.unusedVariables false
set_option linter.unusedSimpArgs false
-- mini
set_option maxRecDepth 100000
namespace Go.Proofs.YtamaocfjknpadaaGreat.Am.M
open Go
theorem rwithin_p (n lo hi : Int) : PC Tryz.prog 186 [.v (.int .i64 (n)), .v (.int .i64 (lo)), .v (.int .i64 (hi))] (.v (.bool (inR lo n hi))) := by
 refine pc_of_awp Tryz.func186 rfl Tryz.ntmps186 (rs := [.tmp 6]) Tryz.results186 (by simp) fun w0 => ?_
 refine awp_seq ?_
 refine xa 1 ?_
 refine rg_q (q_a rfl) ?_
 refine rs (xa 9 ?_)
 refine rg_q (q_m rfl) (rg_q (q_m rfl) (rg_q (q_leq rfl rfl) (rg_q (q_m rfl) ?_)))
 refine rg_g rfl rfl (fun hG => (q_m rfl)) ?_
 refine rg_g rfl rfl (fun hG => (q_m rfl)) ?_
 refine rg_g rfl rfl (fun hG => (q_leq rfl rfl)) ?_
 refine rg_pick rfl rfl rfl rfl rfl rfl ?_
 refine rg_q (q_a rfl) ?_
 refine xc (awp_ret ?_)
 refine ⟨_, xk1, ?_⟩
 simp only [bif_and]; rfl
theorem rsmall_p (n m : Int) (h1 : 0 ≤ m) (h2 : m ≤ 1000000000000) : PC Tryz.prog 291 [.v (.int .i64 (n)), .v (.int .i64 (m))] (.v (.bool (inR (-m) n m))) := by
 refine pc_of_awp Tryz.func291 rfl Tryz.ntmps291 (rs := [.tmp 4]) Tryz.results291 (by simp) fun w0 => ?_
 refine awp_seq ?_
 refine xa 1 ?_
 refine rg_q (q_a rfl) ?_
 refine rs (xa 6 ?_)
 refine rg_q (q_m rfl) (rg_q (q_m rfl) ?_)
 refine rg_q (q_neg rfl xi) ?_
 refine rg_q (q_m rfl) ?_
 refine rg_q (q_call en186 (.cons rfl (.cons rfl (.cons rfl .nil))) rfl (rwithin_p _ _ _)) ?_
 refine rg_q (q_a rfl) ?_
 refine xc (awp_ret ?_)
 refine ⟨_, xk1, ?_⟩
 rfl

def mustI (b : Bool) (e : Int) : Int := if b = true then 0 else e
theorem must_p (b : Bool) (e : Int) : PC Tryz.prog 185 [.v (.bool (b)), .v (.int .i64 (e))] (.v (.int .i64 (mustI b e))) := by
 refine pc_of_awp Tryz.func185 rfl Tryz.ntmps185 (rs := [.tmp 4]) Tryz.results185 (by simp) fun w0 => ?_
 refine awp_seq ?_
 refine xa 1 ?_
 refine rg_q (q_a rfl) ?_
 refine rs (awp_seq ?_)
 refine xa 1 ?_
 refine rg_q (q_m rfl) ?_
 refine xc (awp_cond rfl (fun hc1 => ?_) (fun hc1 => ?_))
 ·
  (try simp only [nb, ne_eq] at hc1)
  have hz : mustI b e = 0 := by unfold mustI; rw [if_pos hc1]
  refine awp_seq ?_
  refine xa 1 ?_
  refine rg_q (q_a rfl) ?_
  refine xc (awp_ret ?_)
  refine ⟨_, xk1, ?_⟩
  rw [hz]; rfl
 ·
  (try simp only [nb, ne_eq] at hc1)
  have hz : mustI b e = e := by unfold mustI; rw [if_neg (by simpa using hc1)]
  refine awp_skip ?_
  change Awp _ _ _ _ _
  refine awp_seq ?_
  refine xa 2 ?_
  refine rg_q (q_m rfl) (rg_q (q_a rfl) ?_)
  refine xc (awp_ret ?_)
  refine ⟨_, xk1, ?_⟩
  rw [hz]; rfl
theorem rfirst_p (l : List Int) : PC Tryz.prog 183 [.sl 1 (l.map iC)] (.v (.int .i64 (firstE l))) := by
 refine pc_of_awp Tryz.func183 rfl Tryz.ntmps183 (rs := [.tmp 2]) Tryz.results183 (by simp) fun w0 => ?_
 refine awp_seq ?_
 refine xa 1 ?_
 refine rg_q (q_a rfl) ?_
 refine rs (awp_seq ?_)
 refine xa 3 ?_
 refine rg_q (q_move (x := .d (.sl _ _)) rfl) ?_
 refine rg_q (q_len isl282 rfl (by exact len_map _ _)) ?_
 refine rg_q (q_m rfl) ?_
 refine xc (awp_len (t := 5) rfl (fun hl5 => ?_))
 (try simp only [List.length_map] at hl5)
 refine awp_block ?_
 refine awp_loopH [2, 4, 7, 8, 9, 10, 11, 12, 13, 14] [] (α := Nat) (fun k => [(7, T.i (k : Int))]) (fun k => []) (fun k => k ≤ l.length ∧ firstE l = firstE (l.drop k)) (fun k => l.length - k) 0 ⟨Nat.zero_le _, rfl⟩ ?_ ?_
 · exact xh (ms := []) (by repeat (exact Out.refl _)) ⟨(by rfl), trivial⟩ trivial
 ·
  intro k ⟨hk, hf⟩
  refine awp_seq ?_
  refine xa 1 ?_
  refine rg_q (q_lss rfl rfl) ?_
  refine rs (awp_cond rfl (fun hc2 => ?_) (fun hc2 => ?_))
  ·
   (try simp only [nb, ne_eq] at hc2)
   have hlt : k < l.length := by omega
   have hx := List.getElem?_eq_getElem hlt
   have hd : firstE (l.drop k) = if l[k] = 0 then firstE (l.drop (k + 1)) else l[k] := by rw [List.drop_eq_getElem_cons hlt]; rfl
   generalize l[k] = x at *
   refine awp_skip ?_
   change Awp _ _ _ _ _
   refine awp_seq ?_
   refine awp_block ?_
   refine awp_seq ?_
   refine xa 3 ?_
   refine rg_q (q_indexAddr sl282 rfl rfl (by omega) (map_at (by omega) hx)) ?_
   refine rg_q (q_load sz40 rfl rfl) (rg_q (q_a rfl) ?_)
   refine rs (xa 2 ?_)
   refine rg_q (q_m rfl) (rg_q (q_neq rfl rfl) ?_)
   refine xc (awp_cond rfl (fun hc4 => ?_) (fun hc4 => ?_))
   ·
    (try simp only [nb, ne_eq] at hc4)
    refine awp_seq ?_
    refine xa 2 ?_
    refine rg_q (q_m rfl) (rg_q (q_a rfl) ?_)
    refine xc (awp_ret ?_)
    refine ⟨_, xk1, ?_⟩
    rw [hf, hd, if_neg hc4]; rfl
   ·
    (try simp only [nb, ne_eq] at hc4)
    refine awp_skip ?_
    change Awp _ _ _ _ _
    refine xa 2 ?_
    refine rg_q (q_add rfl rfl xi) ?_
    refine rg_q (q_m rfl) ?_
    refine rn ?_
    refine ⟨k + 1, ⟨by omega, by rw [hf, hd, if_pos hc4]⟩, by omega, ?_⟩
    exact xh (ms := []) (by repeat (first | exact Out.head rfl rfl | (refine Out.put ?_ rfl))) ⟨(by rfl), trivial⟩ trivial
  ·
   (try simp only [nb, ne_eq] at hc2)
   refine awp_exit ?_
   change Awp _ _ _ _ _
   refine awp_seq ?_
   refine xa 1 ?_
   refine rg_q (q_a rfl) ?_
   refine xc (awp_ret ?_)
   refine ⟨_, xk1, ?_⟩
   rw [hf, List.drop_of_length_le (by omega)]; rfl
theorem down_p (n b : Int) (h : Sm n) (hb : 0 < b) : PC Tryz.prog 290 [.v (.int .i64 (n)), .v (.int .i64 (b))] (.v (.int .i64 (n / b))) := by
 have hq := tdiv_sm h hb
 obtain ⟨h1, h2⟩ := h
 obtain ⟨h3, h4⟩ := hq
 have hl := floor_law (n := n) hb
 refine pc_of_awp Tryz.func290 rfl Tryz.ntmps290 (rs := [.tmp 4]) Tryz.results290 (by simp) fun w0 => ?_
 refine awp_seq ?_
 refine xa 1 ?_
 refine rg_q (q_a rfl) ?_
 refine rs (xa 4 ?_)
 refine rg_q (q_m rfl) (rg_q (q_m rfl) ?_)
 refine rg_q (q_quo rfl rfl (by omega) xi) ?_
 refine rg_q (q_a rfl) ?_
 refine rs (awp_seq ?_)
 refine xa 4 ?_
 refine rg_q (q_m rfl) (rg_q (q_m rfl) ?_)
 refine rg_q (q_rem rfl rfl (by omega)) ?_
 refine rg_q (q_lss rfl rfl) ?_
 refine xc (awp_cond rfl (fun hc2 => ?_) (fun hc2 => ?_))
 ·
  (try simp only [nb, ne_eq] at hc2)
  rw [if_pos hc2] at hl
  refine xa 3 ?_
  refine rg_q (q_m rfl) ?_
  refine rg_q (q_sub rfl rfl xi) ?_
  refine rg_q (q_a rfl) ?_
  refine rs (xa 2 ?_)
  refine rg_q (q_m rfl) (rg_q (q_a rfl) ?_)
  refine xc (awp_ret ?_)
  refine ⟨_, xk1, ?_⟩
  rw [← hl]; rfl
 ·
  (try simp only [nb, ne_eq] at hc2)
  rw [if_neg (by omega)] at hl
  refine awp_skip ?_
  change Awp _ _ _ _ _
  refine awp_seq ?_
  refine xa 2 ?_
  refine rg_q (q_m rfl) (rg_q (q_a rfl) ?_)
  refine xc (awp_ret ?_)
  refine ⟨_, xk1, ?_⟩
  rw [← hl]; rfl
theorem up_p (n b : Int) (h : Sm n) (hb : 0 < b) : PC Tryz.prog 283 [.v (.int .i64 (n)), .v (.int .i64 (b))] (.v (.int .i64 (ceilI n b))) := by
 obtain ⟨h1, h2⟩ := h
 have hq := ediv_sm (a := -n) ⟨by omega, by omega⟩ hb
 obtain ⟨h3, h4⟩ := hq
 refine pc_of_awp Tryz.func283 rfl Tryz.ntmps283 (rs := [.tmp 4]) Tryz.results283 (by simp) fun w0 => ?_
 refine awp_seq ?_
 refine xa 1 ?_
 refine rg_q (q_a rfl) ?_
 refine rs (xa 6 ?_)
 refine rg_q (q_m rfl) ?_
 refine rg_q (q_neg rfl xi) ?_
 refine rg_q (q_m rfl) ?_
 refine rg_q (q_call en290 (.cons rfl (.cons rfl .nil)) rfl (down_p _ _ ⟨by omega, by omega⟩ (by omega))) ?_
 refine rg_q (q_neg rfl xi) ?_
 refine rg_q (q_a rfl) ?_
 refine xc (awp_ret ?_)
 refine ⟨_, xk1, ?_⟩
 rfl

theorem u64_in {n : Int} (h0 : 0 ≤ n) (h1 : n ≤ 9223372036854775807) : IntKind.u64.wrap n = n := by rw [IntKind.wrap_u64]; omega
theorem i64_at {n : Int} (h0 : 0 ≤ n) (h1 : n ≤ 9223372036854775807) : IntKind.i64.wrap n = n := IntWalk.i64_in _ ⟨by omega, by omega⟩
theorem half_law {n : Int} (h0 : 0 ≤ n) : (0 : Int) ≤ 1 ∧ n.fdiv (2 ^ (min (1 : Int).toNat IntKind.u64.bits)) = n / 2 := ⟨by omega, by rw [show min (1 : Int).toNat IntKind.u64.bits = 1 from by decide, Int.fdiv_eq_ediv_of_nonneg _ (by decide)]; rfl⟩
theorem search_p (f : Int → Bool) (g : FuncId) (cap : List D) (hen : enB Tryz.prog g = true) (n : Int) (hn : n ≤ 4611686018427387903) (hf : ∀ h, 0 ≤ h → h < n → PC Tryz.prog g (.v (.int .i64 h) :: cap) (.v (.bool (f h)))) : PC Tryz.prog 293 [.v (.int .i64 (n)), .fn (.func g) cap] (.v (.int .i64 (srch f n))) := by
 refine pc_of_awp Tryz.func293 rfl Tryz.ntmps293 (rs := [.tmp 4]) Tryz.results293 (by simp) fun w0 => ?_
 refine awp_seq ?_
 refine xa 1 ?_
 refine rg_q (q_a rfl) ?_
 refine rs (xa 3 ?_)
 refine rg_q (q_m rfl) (rg_q (q_a rfl) (rg_q (q_a rfl) ?_))
 refine rs (awp_block ?_)
 refine awp_loopH [5, 6, 7, 9, 10, 11, 12, 13, 14, 15, 16, 17, 18, 19, 20, 21, 22, 23, 24] [] (α := Nat × Int × Int) (fun x => [(5, T.i x.2.1), (6, T.i x.2.2)]) (fun x => []) (fun x => 0 ≤ x.2.1 ∧ x.2.2 ≤ n ∧ (x.2.2 - x.2.1 < 2 ^ x.1) ∧ srch f n = bsr f x.1 x.2.1 x.2.2) (fun x => x.1) (62, 0, n) ⟨by simp, by simp, by simp only; omega, rfl⟩ ?_ ?_
 · exact xh (ms := []) (by repeat (exact Out.refl _)) ⟨(by rfl), (by rfl), trivial⟩ trivial
 ·
  intro ⟨d, i, j⟩ ⟨hi, hj, hd, hh⟩
  simp only at hi hj hd hh
  refine awp_seq ?_
  refine awp_seq ?_
  refine xa 3 ?_
  refine rg_q (q_m rfl) (rg_q (q_m rfl) (rg_q (q_lss rfl rfl) ?_))
  refine xc (awp_cond rfl (fun hc2 => ?_) (fun hc2 => ?_))
  ·
   (try simp only [nb, ne_eq] at hc2)
   obtain ⟨e, rfl⟩ : ∃ e, d = e + 1 := by cases d with
    | zero => simp at hd; omega
    | succ e => exact ⟨e, rfl⟩
   have he : (2 : Int) ^ (e + 1) = 2 ^ e + 2 ^ e := by rw [Int.pow_succ]; omega
   have hst := bsr_step (f := f) (k := e) hc2
   have hfx := hf ((i + j) / 2) (by omega) (by omega)
   refine awp_skip ?_
   change Awp _ _ _ _ _
   refine awp_block ?_
   refine awp_seq ?_
   refine xa 7 ?_
   refine rg_q (q_m rfl) (rg_q (q_m rfl) ?_)
   refine rg_q (q_add rfl rfl (In64.mk (by (simp only; omega)) (by (simp only; omega)))) ?_
   refine rg_q (q_convE int3 int297 rfl (u64_in (by (simp only; omega)) (by (simp only; omega)))) ?_
   refine rg_q (q_shrE rfl rfl (half_law (by (simp only; omega)))) ?_
   refine rg_q (q_convE int297 int3 rfl (i64_at (by (simp only; omega)) (by (simp only; omega)))) ?_
   refine rg_q (q_a rfl) ?_
   refine rs (xa 4 ?_)
   refine rg_q (q_move (x := .d (.fn _ _)) rfl) (rg_q (q_m rfl) ?_)
   refine rg_q (q_callC hen rfl (.cons rfl .nil) (hfx)) ?_
   refine rg_q (q_not rfl) ?_
   refine xc (awp_cond rfl (fun hc4 => ?_) (fun hc4 => ?_))
   ·
    (try simp only [nb, ne_eq] at hc4)
    have hq : f ((i + j) / 2) = false := by simpa using hc4
    refine xa 3 ?_
    refine rg_q (q_m rfl) ?_
    refine rg_q (q_add rfl rfl (In64.mk (by (simp only; omega)) (by (simp only; omega)))) ?_
    refine rg_q (q_a rfl) ?_
    refine rn ?_
    refine ⟨(e, (i + j) / 2 + 1, j), ⟨by simp only; omega, by simp only; omega, by simp only; omega, by rw [hh, hst, if_neg (by rw [hq]; simp)]⟩, by simp only; omega, ?_⟩
    exact xh (ms := []) (by repeat (first | exact Out.head rfl rfl | (refine Out.put ?_ rfl))) ⟨(by rfl), (by rfl), trivial⟩ trivial
   ·
    (try simp only [nb, ne_eq] at hc4)
    have hq : f ((i + j) / 2) = true := by simpa using hc4
    refine xa 2 ?_
    refine rg_q (q_m rfl) (rg_q (q_a rfl) ?_)
    refine rn ?_
    refine ⟨(e, i, (i + j) / 2), ⟨by simp only; omega, by simp only; omega, by simp only; omega, by rw [hh, hst, if_pos hq]⟩, by simp only; omega, ?_⟩
    exact xh (ms := []) (by repeat (first | exact Out.head rfl rfl | (refine Out.put ?_ rfl))) ⟨(by rfl), (by rfl), trivial⟩ trivial
  ·
   (try simp only [nb, ne_eq] at hc2)
   have hz := bsr_stop (f := f) (k := d) (i := i) (j := j) (by omega)
   refine awp_exit ?_
   change Awp _ _ _ _ _
   refine awp_seq ?_
   refine xa 2 ?_
   refine rg_q (q_m rfl) (rg_q (q_a rfl) ?_)
   refine xc (awp_ret ?_)
   refine ⟨_, xk1, ?_⟩
   rw [hh, hz]; rfl
theorem root1_p (r n : Int) (h0 : 0 ≤ r) (h1 : r < 2147483648) : PC Tryz.prog 310 [.v (.int .i64 (r)), .pt [.v (.int .i64 (n))] 0] (.v (.bool (decide (n < r * r)))) := by
 have m := mulb (a := r) (b := r) (A := 2147483648) (B := 2147483648) (by omega) (by omega) (by omega) (by omega)
 refine pc_of_awp Tryz.func310 rfl Tryz.ntmps310 (rs := [.tmp 3]) Tryz.results310 (by simp) fun w0 => ?_
 refine awp_seq ?_
 refine xa 1 ?_
 refine rg_q (q_a rfl) ?_
 refine rs (xa 6 ?_)
 refine rg_q (q_m rfl) (rg_q (q_m rfl) ?_)
 refine rg_q (q_mul rfl rfl xi) ?_
 refine rg_q (q_load sz3 rfl rfl) (rg_q (q_gtr rfl rfl) (rg_q (q_a rfl) ?_))
 refine xc (awp_ret ?_)
 refine ⟨_, xk1, ?_⟩
 rfl
theorem root_p (n : Int) (h0 : 0 ≤ n) (h1 : n < 4611686018427387904) : PC Tryz.prog 304 [.v (.int .i64 (n))] (.v (.int .i64 (rootI n))) := by
 have hs := root_srch h0 h1
 obtain ⟨r1, r2, r3, r4⟩ := root_spec h0 h1
 refine pc_of_awp Tryz.func304 rfl Tryz.ntmps304 (rs := [.tmp 2]) Tryz.results304 (by simp) fun w0 => ?_
 refine awp_seq ?_
 refine xa 2 ?_
 refine rg_q (q_box rfl (by exact .inl rfl)) ?_
 refine rg_q (q_a rfl) ?_
 refine rs (xa 4 ?_)
 refine rg_q (q_makeFunc (.cons rfl .nil)) ?_
 refine rg_q (q_call en293 (.cons rfl (.cons rfl .nil)) rfl (search_p (fun r => decide (n < r * r)) 310 [.pt [.v (.int .i64 n)] 0] en310 2147483648 (by omega) (fun h a b => root1_p h n a b))) ?_
 refine rg_q (q_sub rfl rfl xi) ?_
 refine rg_q (q_a rfl) ?_
 refine xc (awp_ret ?_)
 refine ⟨_, xk1, ?_⟩
 rw [← hs]; rfl

theorem len_bounds {x z : Int} (h1 : -200000 ≤ x) (h2 : x ≤ 200000) (h3 : -200000 ≤ z) (h4 : z ≤ 200000) : 0 ≤ x * x ∧ x * x ≤ 40000000000 ∧ 0 ≤ z * z ∧ z * z ≤ 40000000000 := by
  have sq : ∀ t : Int, -200000 ≤ t → t ≤ 200000 → 0 ≤ t * t ∧ t * t ≤ 40000000000 := fun t a b => by
    have m := mulb (a := t) (b := t) (A := 200000) (B := 200000) (by omega) (by omega) (by omega) (by omega)
    refine ⟨?_, by omega⟩
    rcases Int.le_total 0 t with q | q
    · exact Int.mul_nonneg q q
    · have := Int.mul_nonneg (show 0 ≤ -t by omega) (show 0 ≤ -t by omega)
      rwa [Int.neg_mul_neg] at this
  exact ⟨(sq x h1 h2).1, (sq x h1 h2).2, (sq z h3 h4).1, (sq z h3 h4).2⟩
structure LenIn (r : Rg) : Prop where
  a : 0 ≤ r.1
  b : r.1 ≤ 400000000
  c : 0 ≤ r.2
  d : r.2 ≤ 400000000
  e : r.1 ≤ r.2
theorem len_in {x z : Int} (h1 : -200000 ≤ x) (h2 : x ≤ 200000) (h3 : -200000 ≤ z) (h4 : z ≤ 200000) : LenIn (lenI x z) := by
  obtain ⟨b1, b2, b3, b4⟩ := len_bounds h1 h2 h3 h4
  obtain ⟨r1, r2, r3, r4⟩ := root_spec (n := 1000000 * (x * x + z * z)) (by omega) (by omega)
  have h5 : rootI (1000000 * (x * x + z * z)) < 300000000 := sq_lt (by omega) (by omega)
  unfold lenI
  refine ⟨r1, by simp only; omega, ?_, ?_, ?_⟩ <;> simp only <;> split <;> omega
theorem length_p (x z : Int) (h1 : -200000 ≤ x) (h2 : x ≤ 200000) (h3 : -200000 ≤ z) (h4 : z ≤ 200000) : PC Tryz.prog 297 [.v (.int .i64 (x)), .v (.int .i64 (z))] (.agg [.v (.int .i64 ((lenI x z).1)), .v (.int .i64 ((lenI x z).2))]) := by
 obtain ⟨b1, b2, b3, b4⟩ := len_bounds h1 h2 h3 h4
 obtain ⟨r1, r2, r3, r4⟩ := root_spec (n := 1000000 * (x * x + z * z)) (by omega) (by omega)
 have r5 := Int.mul_nonneg r1 r1
 refine pc_of_awp Tryz.func297 rfl Tryz.ntmps297 (rs := [.cell 4 56]) Tryz.results297 (by simp) fun w0 => ?_
 refine awp_seq ?_
 refine xa 0 ?_
 refine rg_nil ?_
 refine aops_alloc zr56 rfl rfl rfl ?_
 refine aops_nil (xq (xa 9 ?_))
 refine rg_q (q_m rfl) (rg_q (q_m rfl) ?_)
 refine rg_q (q_mul rfl rfl xi) ?_
 refine rg_q (q_m rfl) (rg_q (q_m rfl) ?_)
 refine rg_q (q_mul rfl rfl xi) ?_
 refine rg_q (q_add rfl rfl xi) ?_
 refine rg_q (q_mul rfl rfl xi) ?_
 refine rg_q (q_a rfl) ?_
 refine rs (xa 3 ?_)
 refine rg_q (q_m rfl) ?_
 refine rg_q (q_call en304 (.cons rfl .nil) rfl (root_p _ (by omega) (by omega))) ?_
 refine rg_q (q_build (cs := [_, _]) pl56 zr56 rfl (.cons rfl (by exact .inl rfl) .nil) ⟨⟨rfl, by decide⟩, trivial⟩ rfl) ?_
 refine rg_nil ?_
 refine aops_alloc zr56 rfl rfl rfl ?_
 refine aops_store sz56 rfl rfl (by exact .inr ⟨_, rfl⟩) rfl rfl (by decide) rfl ?_
 refine aops_nil (xq (xa 3 ?_))
 refine rg_q (q_fieldAddr_ref fld56_0 rfl) (rg_q (q_load_ref sz3 rfl rfl rfl) (rg_q (q_fieldAddr_ref fld56_1 rfl) ?_))
 refine rg_nil ?_
 refine aops_store sz3 rfl rfl (by exact .inl rfl) rfl rfl (by exact Nat.le_of_ble_eq_true rfl) rfl ?_
 refine aops_nil (xq (awp_seq ?_))
 refine xa 7 ?_
 refine rg_q (q_fieldAddr_ref fld56_0 rfl) (rg_q (q_load_ref sz3 rfl rfl rfl) (rg_q (q_fieldAddr_ref fld56_0 rfl) (rg_q (q_load_ref sz3 rfl rfl rfl) ?_)))
 refine rg_q (q_mul rfl rfl xi) ?_
 refine rg_q (q_m rfl) (rg_q (q_lss rfl rfl) ?_)
 refine xc (awp_cond rfl (fun hc4 => ?_) (fun hc4 => ?_))
 ·
  (try simp only [nb, ne_eq] at hc4)
  have hz : (lenI x z).2 = rootI (1000000 * (x * x + z * z)) + 1 := by unfold lenI; simp only; rw [if_pos hc4]
  refine xa 4 ?_
  refine rg_q (q_fieldAddr_ref fld56_1 rfl) (rg_q (q_load_ref sz3 rfl rfl rfl) ?_)
  refine rg_q (q_add rfl rfl xi) ?_
  refine rg_q (q_fieldAddr_ref fld56_1 rfl) ?_
  refine rg_nil ?_
  refine aops_store sz3 rfl rfl (by exact .inl rfl) rfl rfl (by exact Nat.le_of_ble_eq_true rfl) rfl ?_
  refine aops_nil (xq (xa 1 ?_))
  refine rg_q (q_load_refA (ds := [_, _]) sz56 rfl rfl rfl rfl) ?_
  refine rg_nil ?_
  refine aops_store sz56 rfl rfl (by exact .inr ⟨_, rfl⟩) rfl rfl (by decide) rfl ?_
  refine aops_nil ?_
  change Awp _ _ _ _ _
  refine awp_ret ?_
  refine ⟨_, (.cons (.cellA rfl rfl sz56 rfl) .nil), ?_⟩
  rw [hz]; rfl
 ·
  (try simp only [nb, ne_eq] at hc4)
  have hz : (lenI x z).2 = rootI (1000000 * (x * x + z * z)) := by unfold lenI; simp only; rw [if_neg (by omega)]
  refine awp_skip ?_
  change Awp _ _ _ _ _
  refine awp_seq ?_
  refine xa 1 ?_
  refine rg_q (q_load_refA (ds := [_, _]) sz56 rfl rfl rfl rfl) ?_
  refine rg_nil ?_
  refine aops_store sz56 rfl rfl (by exact .inr ⟨_, rfl⟩) rfl rfl (by decide) rfl ?_
  refine aops_nil ?_
  change Awp _ _ _ _ _
  refine awp_ret ?_
  refine ⟨_, (.cons (.cellA rfl rfl sz56 rfl) .nil), ?_⟩
  rw [hz]; rfl
theorem time_p (r : Rg) (v : Int) (hr : LenIn r) (h1 : 500 ≤ v) : PC Tryz.prog 296 [.agg [.v (.int .i64 ((r).1)), .v (.int .i64 ((r).2))], .v (.int .i64 (v))] (.agg [.v (.int .i64 ((timI r v).1)), .v (.int .i64 ((timI r v).2))]) := by
 obtain ⟨a1, a2, a3, a4, a5⟩ := hr
 refine pc_of_awp Tryz.func296 rfl Tryz.ntmps296 (rs := [.cell 4 56]) Tryz.results296 (by simp) fun w0 => ?_
 refine awp_seq ?_
 refine xa 1 ?_
 refine rg_q (q_box rfl (by exact .inr ⟨_, rfl⟩)) ?_
 refine rg_nil ?_
 refine aops_alloc zr56 rfl rfl rfl ?_
 refine aops_nil (xq (xa 11 ?_))
 refine rg_q (q_fieldAddr fld56_0 rfl) (rg_q (q_load sz3 rfl rfl) ?_)
 refine rg_q (q_mul rfl rfl xi) ?_
 refine rg_q (q_m rfl) ?_
 refine rg_q (q_call en290 (.cons rfl (.cons rfl .nil)) rfl (down_p _ _ ⟨by omega, by omega⟩ (by omega))) ?_
 refine rg_q (q_fieldAddr fld56_1 rfl) (rg_q (q_load sz3 rfl rfl) ?_)
 refine rg_q (q_mul rfl rfl xi) ?_
 refine rg_q (q_m rfl) ?_
 refine rg_q (q_call en283 (.cons rfl (.cons rfl .nil)) rfl (up_p _ _ ⟨by omega, by omega⟩ (by omega))) ?_
 refine rg_q (q_build (cs := [_, _]) pl56 zr56 rfl (.cons rfl (by exact .inl rfl) (.cons rfl (by exact .inl rfl) .nil)) ⟨⟨rfl, by decide⟩, ⟨rfl, by decide⟩, trivial⟩ rfl) ?_
 refine rg_nil ?_
 refine aops_store sz56 rfl rfl (by exact .inr ⟨_, rfl⟩) rfl rfl (by decide) rfl ?_
 refine aops_nil ?_
 change Awp _ _ _ _ _
 refine awp_ret ?_
 refine ⟨_, (.cons (.cellA rfl rfl sz56 rfl) .nil), ?_⟩
 rfl
theorem plus_p (a b : Rg) (h1 : -1000000000000000 ≤ a.1) (h2 : a.1 ≤ 1000000000000000) (h3 : -1000000000000000 ≤ b.1) (h4 : b.1 ≤ 1000000000000000) (h5 : -1000000000000000 ≤ a.2) (h6 : a.2 ≤ 1000000000000000) (h7 : -1000000000000000 ≤ b.2) (h8 : b.2 ≤ 1000000000000000) : PC Tryz.prog 269 [.agg [.v (.int .i64 ((a).1)), .v (.int .i64 ((a).2))], .agg [.v (.int .i64 ((b).1)), .v (.int .i64 ((b).2))]] (.agg [.v (.int .i64 (((a.1 + b.1, a.2 + b.2)).1)), .v (.int .i64 (((a.1 + b.1, a.2 + b.2)).2))]) := by
 refine pc_of_awp Tryz.func269 rfl Tryz.ntmps269 (rs := [.cell 4 56]) Tryz.results269 (by simp) fun w0 => ?_
 refine awp_seq ?_
 refine xa 2 ?_
 refine rg_q (q_box rfl (by exact .inr ⟨_, rfl⟩)) ?_
 refine rg_q (q_box rfl (by exact .inr ⟨_, rfl⟩)) ?_
 refine rg_nil ?_
 refine aops_alloc zr56 rfl rfl rfl ?_
 refine aops_nil (xq (xa 11 ?_))
 refine rg_q (q_fieldAddr fld56_0 rfl) (rg_q (q_load sz3 rfl rfl) (rg_q (q_fieldAddr fld56_0 rfl) (rg_q (q_load sz3 rfl rfl) ?_)))
 refine rg_q (q_add rfl rfl xi) ?_
 refine rg_q (q_fieldAddr fld56_1 rfl) (rg_q (q_load sz3 rfl rfl) (rg_q (q_fieldAddr fld56_1 rfl) (rg_q (q_load sz3 rfl rfl) ?_)))
 refine rg_q (q_add rfl rfl xi) ?_
 refine rg_q (q_build (cs := [_, _]) pl56 zr56 rfl (.cons rfl (by exact .inl rfl) (.cons rfl (by exact .inl rfl) .nil)) ⟨⟨rfl, by decide⟩, ⟨rfl, by decide⟩, trivial⟩ rfl) ?_
 refine rg_nil ?_
 refine aops_store sz56 rfl rfl (by exact .inr ⟨_, rfl⟩) rfl rfl (by decide) rfl ?_
 refine aops_nil ?_
 change Awp _ _ _ _ _
 refine awp_ret ?_
 refine ⟨_, (.cons (.cellA rfl rfl sz56 rfl) .nil), ?_⟩
 rfl

theorem maskN (a : Nat) (ha : a < 18446744073709551616) : bits .and .u64 (a : Int) 4294967295 = ((a % 4294967296 : Nat) : Int) := by
  have h := bits_and_u64_nat a 4294967295 ha (by omega)
  have e : a &&& 4294967295 = a % 4294967296 := Nat.and_two_pow_sub_one_eq_mod a 32
  rw [e] at h
  exact h
theorem divN (a : Nat) : (a : Int) / 4294967296 = ((a / 4294967296 : Nat) : Int) := by omega
theorem mulN (a b : Nat) : (a : Int) * (b : Int) = ((a * b : Nat) : Int) := (Int.natCast_mul a b).symm
theorem addN (a b : Nat) : (a : Int) + (b : Int) = ((a + b : Nat) : Int) := (Int.natCast_add a b).symm
theorem wrapN (a : Nat) (ha : a < 18446744073709551616) : IntKind.u64.wrap (a : Int) = (a : Int) := by rw [IntKind.wrap_u64]; omega
theorem wrapM (a : Nat) : IntKind.u64.wrap (a : Int) = ((a % 18446744073709551616 : Nat) : Int) := by rw [IntKind.wrap_u64]; omega
set_option maxHeartbeats 1000000 in
theorem mul64_c (x y : Nat) (hx : x < 18446744073709551616) (hy : y < 18446744073709551616) (w : World) :
    Calls Tryz.prog 309 #[.int .u64 x, .int .u64 y] w fun e w' => e = .returned (.tuple #[.int .u64 ((x * y / 18446744073709551616 : Nat) : Int), .int .u64 ((x * y % 18446744073709551616 : Nat) : Int)]) ∧ w' = w := by
  obtain ⟨bd, bt, bw, hhi⟩ := Lib.mul64_hi x y hx hy
  have ba := Lib.half_mul_le (a := x / 4294967296) (b := y / 4294967296) (by omega) (by omega)
  have bb := Lib.half_mul_le (a := x / 4294967296) (b := y % 4294967296) (by omega) (by omega)
  have bc := Lib.half_mul_le (a := x % 4294967296) (b := y / 4294967296) (by omega) (by omega)
  have ba' : x / 4294967296 * (y / 4294967296) < 18446744073709551616 := by omega
  have bb' : x / 4294967296 * (y % 4294967296) < 18446744073709551616 := by omega
  have bc' : x % 4294967296 * (y / 4294967296) < 18446744073709551616 := by omega
  have bh1 : x / 4294967296 * (y / 4294967296) + (x / 4294967296 * (y % 4294967296) + x % 4294967296 * (y % 4294967296) / 4294967296) / 4294967296 < 18446744073709551616 := by omega
  have bh : x / 4294967296 * (y / 4294967296) + (x / 4294967296 * (y % 4294967296) + x % 4294967296 * (y % 4294967296) / 4294967296) / 4294967296 + ((x / 4294967296 * (y % 4294967296) + x % 4294967296 * (y % 4294967296) / 4294967296) % 4294967296 + x % 4294967296 * (y / 4294967296)) / 4294967296 < 18446744073709551616 := by omega
  go_enter Tryz.func309, Tryz.ntmps309
  go_wp2
  simp only [maskN x hx, maskN y hy, divN, mulN, addN, wrapN _ bd, wrapN _ bb', wrapN _ bt, maskN _ bt, wrapN _ bc', wrapN _ bw, wrapN _ ba', wrapN _ bh1, wrapN _ bh, wrapM (x * y)]
  rw [hhi]
  go_ret2
  exact ⟨rfl, rfl⟩
theorem rep_tup {w : World} {ok : Nat → Prop} {cs : List D} {vs : List Value} (h : RepL w ok cs vs) : Rep w ok (.tup cs) (.tuple vs.toArray) :=
  .tup cs vs h.length fun j d v h1 h2 => h.get j d v h1 h2
def hi64 (p : Int) : Int := p / 18446744073709551616
def lo64 (p : Int) : Int := p % 18446744073709551616
theorem mul64_p (x y : Int) (h1 : 0 ≤ x) (h2 : x < 18446744073709551616) (h3 : 0 ≤ y) (h4 : y < 18446744073709551616) : PC Tryz.prog 309 [.v (.int .u64 x), .v (.int .u64 y)] (.tup [.v (.int .u64 (hi64 (x * y))), .v (.int .u64 (lo64 (x * y)))]) := by
  intro w ok vs hL
  match vs, hL with
  | [v, v'], ⟨k1, k2, _⟩ =>
    rw [Rep.v_eq k1, Rep.v_eq k2]
    obtain ⟨a, rfl⟩ := Int.eq_ofNat_of_zero_le h1
    obtain ⟨b, rfl⟩ := Int.eq_ofNat_of_zero_le h3
    refine (mul64_c a b (by omega) (by omega) w).mono ?_
    rintro e w' ⟨rfl, rfl⟩
    have e1 : hi64 ((a : Int) * (b : Int)) = ((a * b / 18446744073709551616 : Nat) : Int) := by unfold hi64; rw [← Int.natCast_mul]; omega
    have e2 : lo64 ((a : Int) * (b : Int)) = ((a * b % 18446744073709551616 : Nat) : Int) := by unfold lo64; rw [← Int.natCast_mul]; omega
    rw [e1, e2]
    exact ⟨_, rfl, Ext.refl _, rep_tup (vs := [.int .u64 _, .int .u64 _]) ⟨.v _ rfl, .v _ rfl, trivial⟩⟩
end Go.Proofs.YtamaocfjknpadaaGreat.Am.M
-- mini
set_option maxRecDepth 100000
namespace Go.Proofs.YtamaocfjknpadaaGreat.Am.M
open Go
theorem times_p (a b : Int) (h1 : 0 ≤ a) (h2 : a ≤ 9223372036854775807) (h3 : 0 ≤ b) (h4 : b ≤ 9223372036854775807) : PC Tryz.prog 302 [.v (.int .i64 (a)), .v (.int .i64 (b))] (.agg [.v (.int .u64 (hi64 (a * b))), .v (.int .u64 (lo64 (a * b)))]) := by
 refine pc_of_awp Tryz.func302 rfl Tryz.ntmps302 (rs := [.cell 4 388]) Tryz.results302 (by simp) fun w0 => ?_
 refine awp_seq ?_
 refine xa 0 ?_
 refine rg_nil ?_
 refine aops_alloc zr388 rfl rfl rfl ?_
 refine aops_nil (xq (xa 10 ?_))
 refine rg_q (q_m rfl) ?_
 refine rg_q (q_convE int3 int165 rfl (u64_in (by omega) (by omega))) ?_
 refine rg_q (q_m rfl) ?_
 refine rg_q (q_convE int3 int165 rfl (u64_in (by omega) (by omega))) ?_
 refine rg_q (q_call en309 (.cons rfl (.cons rfl .nil)) rfl (mul64_p _ _ (by omega) (by omega) (by omega) (by omega))) ?_
 refine rg_q (q_move (x := .d (.tup _)) rfl) (rg_q (q_extract rfl rfl) (rg_q (q_extract rfl rfl) (rg_q (q_a rfl) (rg_q (q_a rfl) ?_))))
 refine rs (xa 3 ?_)
 refine rg_q (q_m rfl) (rg_q (q_m rfl) ?_)
 refine rg_q (q_build (cs := [_, _]) pl388 zr388 rfl (.cons rfl (by exact .inl rfl) (.cons rfl (by exact .inl rfl) .nil)) ⟨⟨rfl, by decide⟩, ⟨rfl, by decide⟩, trivial⟩ rfl) ?_
 refine rg_nil ?_
 refine aops_store sz388 rfl rfl (by exact .inr ⟨_, rfl⟩) rfl rfl (by decide) rfl ?_
 refine aops_nil ?_
 change Awp _ _ _ _ _
 refine awp_ret ?_
 refine ⟨_, (.cons (.cellA rfl rfl sz388 rfl) .nil), ?_⟩
 rfl

theorem hl64 (a : Int) : a = hi64 a * 18446744073709551616 + lo64 a ∧ 0 ≤ lo64 a ∧ lo64 a < 18446744073709551616 := by unfold hi64 lo64; omega
theorem compare_p (a b : Int) : PC Tryz.prog 303 [.agg [.v (.int .u64 (hi64 (a))), .v (.int .u64 (lo64 (a)))], .agg [.v (.int .u64 (hi64 (b))), .v (.int .u64 (lo64 (b)))]] (.v (.int .i64 (sgnI a b))) := by
 obtain ⟨a1, a2, a3⟩ := hl64 a
 obtain ⟨b1, b2, b3⟩ := hl64 b
 refine pc_of_awp Tryz.func303 rfl Tryz.ntmps303 (rs := [.tmp 4]) Tryz.results303 (by simp) fun w0 => ?_
 refine awp_seq ?_
 refine xa 3 ?_
 refine rg_q (q_box rfl (by exact .inr ⟨_, rfl⟩)) ?_
 refine rg_q (q_box rfl (by exact .inr ⟨_, rfl⟩)) ?_
 refine rg_q (q_a rfl) ?_
 refine rs (awp_block ?_)
 refine awp_seq ?_
 refine xa 4 ?_
 refine rg_q (q_loadA (ds := [_, _]) sz388 rfl rfl rfl) ?_
 refine rg_q (q_loadA (ds := [_, _]) sz388 rfl rfl rfl) ?_
 refine rg_q (q_eqlK (xs := [_, _]) (ys := [_, _]) eqk388 rfl rfl rfl rfl) ?_
 refine rg_q (q_a rfl) ?_
 refine xc (awp_cond rfl (fun hc1 => ?_) (fun hc1 => ?_))
 ·
  (try simp only [nb, ne_eq] at hc1)
  have hz : sgnI a b = 0 := by unfold sgnI; rw [if_pos (by simp at hc1; omega)]
  refine awp_seq ?_
  refine xa 1 ?_
  refine rg_q (q_a rfl) ?_
  refine xc (awp_ret ?_)
  refine ⟨_, xk1, ?_⟩
  rw [hz]; rfl
 ·
  (try simp only [nb, ne_eq] at hc1)
  have hne : ¬ a = b := fun e => by subst e; simp at hc1
  refine awp_seq ?_
  refine xa 20 ?_
  refine rg_q (q_fieldAddr fld388_0 rfl) (rg_q (q_load sz165 rfl rfl) (rg_q (q_fieldAddr fld388_0 rfl) (rg_q (q_load sz165 rfl rfl) (rg_q (q_lss rfl rfl) (rg_q (q_m rfl) ?_)))))
  refine rg_g rfl rfl (fun hG => (q_fieldAddr fld388_0 rfl)) ?_
  refine rg_g rfl rfl (fun hG => (q_load sz165 rfl rfl)) ?_
  refine rg_g rfl rfl (fun hG => (q_fieldAddr fld388_0 rfl)) ?_
  refine rg_g rfl rfl (fun hG => (q_load sz165 rfl rfl)) ?_
  refine rg_g rfl rfl (fun hG => (q_eql rfl rfl)) ?_
  refine rg_g rfl rfl (fun hG => (q_m rfl)) ?_
  refine rg_g rfl rfl (fun hG => (q_fieldAddr fld388_1 rfl)) ?_
  refine rg_g rfl rfl (fun hG => (q_load sz165 rfl rfl)) ?_
  refine rg_g rfl rfl (fun hG => (q_fieldAddr fld388_1 rfl)) ?_
  refine rg_g rfl rfl (fun hG => (q_load sz165 rfl rfl)) ?_
  refine rg_g rfl rfl (fun hG => (q_lss rfl rfl)) ?_
  refine rg_pickg rfl rfl rfl rfl rfl rfl rfl rfl ?_
  refine rg_pick rfl rfl rfl rfl rfl rfl ?_
  refine rg_q (q_a rfl) ?_
  refine xc (awp_cond rfl (fun hc3 => ?_) (fun hc3 => ?_))
  ·
   (try simp only [nb, ne_eq] at hc3)
   have hz : sgnI a b = -1 := by unfold sgnI; rw [if_neg hne, if_pos (by omega)]
   refine awp_seq ?_
   refine xa 1 ?_
   refine rg_q (q_a rfl) ?_
   refine xc (awp_ret ?_)
   refine ⟨_, xk1, ?_⟩
   rw [hz]; rfl
  ·
   (try simp only [nb, ne_eq] at hc3)
   have hz : sgnI a b = 1 := by unfold sgnI; rw [if_neg hne, if_neg (by omega)]
   refine awp_skip ?_
   change Awp _ _ _ _ _
   refine awp_seq ?_
   refine xa 1 ?_
   refine rg_q (q_a rfl) ?_
   refine xc (awp_ret ?_)
   refine ⟨_, xk1, ?_⟩
   rw [hz]; rfl

theorem slope_bounds {t v h : Int} (t1 : -200000 ≤ t) (t2 : t ≤ 200000) (v1 : 500 ≤ v) (v2 : v ≤ 10000) (h1 : 1 ≤ h) (h2 : h ≤ 100000) :
    (-2000000000 ≤ t * v ∧ t * v ≤ 2000000000) ∧ (-400000000000000 ≤ t * v * t ∧ t * v * t ≤ 400000000000000) ∧ (0 ≤ t * v * t * v ∧ t * v * t * v ≤ 4000000000000000000) ∧ (0 ≤ t * t ∧ t * t ≤ 40000000000) ∧ (0 ≤ h * h ∧ h * h ≤ 10000000000) := by
  have m1 := mulb (a := t) (b := v) (A := 200000) (B := 10000) (by omega) (by omega) (by omega) (by omega)
  have m2 := mulb (a := t * v) (b := t) (A := 2000000000) (B := 200000) (by omega) (by omega) (by omega) (by omega)
  have m3 := mulb (a := t * v * t) (b := v) (A := 400000000000000) (B := 10000) (by omega) (by omega) (by omega) (by omega)
  obtain ⟨b1, b2, b3, b4⟩ := len_bounds (x := t) (z := h) t1 t2 (by omega) (by omega)
  have m4 := mulb (a := h) (b := h) (A := 100000) (B := 100000) (by omega) (by omega) (by omega) (by omega)
  have e : t * v * t * v = (t * v) * (t * v) := by grind
  have n : 0 ≤ (t * v) * (t * v) := by
    rcases Int.le_total 0 (t * v) with q | q
    · exact Int.mul_nonneg q q
    · have := Int.mul_nonneg (show 0 ≤ -(t * v) by omega) (show 0 ≤ -(t * v) by omega)
      rwa [Int.neg_mul_neg] at this
  refine ⟨by omega, by omega, by omega, ⟨b1, b2⟩, b3, by omega⟩
theorem slope_p (x : Crs) (t : Int) (hx : CrsOk x) (h1 : -100000 ≤ t) (h2 : t ≤ 100000) : PC Tryz.prog 295 [.agg (crsC x), .v (.int .i64 (t))] (.v (.int .i64 (slopeI x t))) := by
 obtain ⟨a1, a2, b1, b2, c1, c2, d1, d2, e1, e2, f1, f2⟩ := hx
 obtain ⟨p1, p2, p3, p4, p5⟩ := slope_bounds (t := t - x.x1) (v := x.v2) (h := x.h1) (by omega) (by omega) f1 f2 c1 c2
 obtain ⟨q1, q2, q3, q4, q5⟩ := slope_bounds (t := x.x2 - t) (v := x.v1) (h := x.h2) (by omega) (by omega) e1 e2 d1 d2
 have hs : -1 ≤ sgnI (oneI x t) (twoI x t) ∧ sgnI (oneI x t) (twoI x t) ≤ 1 := by unfold sgnI; split <;> (try split) <;> omega
 refine pc_of_awp Tryz.func295 rfl Tryz.ntmps295 (rs := [.tmp 4]) Tryz.results295 (by simp) fun w0 => ?_
 refine awp_seq ?_
 refine xa 2 ?_
 refine rg_q (q_box rfl (by exact .inr ⟨_, rfl⟩)) ?_
 refine rg_q (q_a rfl) ?_
 refine rs (xa 12 ?_)
 refine rg_q (q_m rfl) (rg_q (q_fieldAddr fld366_0 rfl) (rg_q (q_fieldAddr fld364_0 rfl) (rg_q (q_load sz3 rfl rfl) ?_)))
 refine rg_q (q_sub rfl rfl xi) ?_
 refine rg_q (q_fieldAddr fld366_0 rfl) (rg_q (q_fieldAddr fld364_3 rfl) (rg_q (q_load sz3 rfl rfl) (rg_q (q_m rfl) ?_)))
 refine rg_q (q_sub rfl rfl xi) ?_
 refine rg_q (q_a rfl) (rg_q (q_a rfl) ?_)
 refine rs (xa 23 ?_)
 refine rg_q (q_m rfl) (rg_q (q_fieldAddr fld366_0 rfl) (rg_q (q_fieldAddr fld364_5 rfl) (rg_q (q_load sz3 rfl rfl) ?_)))
 refine rg_q (q_mul rfl rfl xi) ?_
 refine rg_q (q_m rfl) ?_
 refine rg_q (q_mul rfl rfl xi) ?_
 refine rg_q (q_fieldAddr fld366_0 rfl) (rg_q (q_fieldAddr fld364_5 rfl) (rg_q (q_load sz3 rfl rfl) ?_))
 refine rg_q (q_mul rfl rfl xi) ?_
 refine rg_q (q_m rfl) (rg_q (q_m rfl) ?_)
 refine rg_q (q_mul rfl rfl xi) ?_
 refine rg_q (q_fieldAddr fld366_0 rfl) (rg_q (q_fieldAddr fld364_4 rfl) (rg_q (q_load sz3 rfl rfl) (rg_q (q_fieldAddr fld366_0 rfl) (rg_q (q_fieldAddr fld364_4 rfl) (rg_q (q_load sz3 rfl rfl) ?_)))))
 refine rg_q (q_mul rfl rfl xi) ?_
 refine rg_q (q_add rfl rfl xi) ?_
 refine rg_q (q_call en302 (.cons rfl (.cons rfl .nil)) rfl (times_p _ _ (by omega) (by omega) (by omega) (by omega))) ?_
 refine rg_nil ?_
 refine aops_alloc zr388 rfl rfl rfl ?_
 refine aops_store sz388 rfl rfl (by exact .inr ⟨_, rfl⟩) rfl rfl (by decide) rfl ?_
 refine aops_nil (xq (xa 23 ?_))
 refine rg_q (q_m rfl) (rg_q (q_fieldAddr fld366_0 rfl) (rg_q (q_fieldAddr fld364_2 rfl) (rg_q (q_load sz3 rfl rfl) ?_)))
 refine rg_q (q_mul rfl rfl xi) ?_
 refine rg_q (q_m rfl) ?_
 refine rg_q (q_mul rfl rfl xi) ?_
 refine rg_q (q_fieldAddr fld366_0 rfl) (rg_q (q_fieldAddr fld364_2 rfl) (rg_q (q_load sz3 rfl rfl) ?_))
 refine rg_q (q_mul rfl rfl xi) ?_
 refine rg_q (q_m rfl) (rg_q (q_m rfl) ?_)
 refine rg_q (q_mul rfl rfl xi) ?_
 refine rg_q (q_fieldAddr fld366_0 rfl) (rg_q (q_fieldAddr fld364_1 rfl) (rg_q (q_load sz3 rfl rfl) (rg_q (q_fieldAddr fld366_0 rfl) (rg_q (q_fieldAddr fld364_1 rfl) (rg_q (q_load sz3 rfl rfl) ?_)))))
 refine rg_q (q_mul rfl rfl xi) ?_
 refine rg_q (q_add rfl rfl xi) ?_
 refine rg_q (q_call en302 (.cons rfl (.cons rfl .nil)) rfl (times_p _ _ (by omega) (by omega) (by omega) (by omega))) ?_
 refine rg_nil ?_
 refine aops_alloc zr388 rfl rfl rfl ?_
 refine aops_store sz388 rfl rfl (by exact .inr ⟨_, rfl⟩) rfl rfl (by decide) rfl ?_
 refine aops_nil (xq (xa 4 ?_))
 refine rg_q (q_load_refA (ds := [_, _]) sz388 rfl rfl rfl rfl) ?_
 refine rg_q (q_load_refA (ds := [_, _]) sz388 rfl rfl rfl rfl) ?_
 refine rg_q (q_call en303 (.cons rfl (.cons rfl .nil)) rfl (compare_p (oneI x t) (twoI x t))) ?_
 refine rg_q (q_a rfl) ?_
 refine rs (awp_seq ?_)
 refine xa 7 ?_
 refine rg_q (q_fieldAddr fld366_0 rfl) (rg_q (q_fieldAddr fld364_3 rfl) (rg_q (q_load sz3 rfl rfl) (rg_q (q_fieldAddr fld366_0 rfl) (rg_q (q_fieldAddr fld364_0 rfl) (rg_q (q_load sz3 rfl rfl) ?_)))))
 refine rg_q (q_lss rfl rfl) ?_
 refine xc (awp_cond rfl (fun hc5 => ?_) (fun hc5 => ?_))
 ·
  (try simp only [nb, ne_eq] at hc5)
  have hz : slopeI x t = -(sgnI (oneI x t) (twoI x t)) := by unfold slopeI; rw [if_pos hc5]
  refine xa 3 ?_
  refine rg_q (q_m rfl) ?_
  refine rg_q (q_neg rfl xi) ?_
  refine rg_q (q_a rfl) ?_
  refine rs (xa 2 ?_)
  refine rg_q (q_m rfl) (rg_q (q_a rfl) ?_)
  refine xc (awp_ret ?_)
  refine ⟨_, xk1, ?_⟩
  rw [hz]; rfl
 ·
  (try simp only [nb, ne_eq] at hc5)
  have hz : slopeI x t = sgnI (oneI x t) (twoI x t) := by unfold slopeI; rw [if_neg (by omega)]
  refine awp_skip ?_
  change Awp _ _ _ _ _
  refine awp_seq ?_
  refine xa 2 ?_
  refine rg_q (q_m rfl) (rg_q (q_a rfl) ?_)
  refine xc (awp_ret ?_)
  refine ⟨_, xk1, ?_⟩
  rw [hz]; rfl
theorem ends_p (x : Crs) : PC Tryz.prog 292 [.agg (crsC x)] (.tup [.v (.int .i64 (loX x)), .v (.int .i64 (hiX x))]) := by
 refine pc_of_awp Tryz.func292 rfl Tryz.ntmps292 (rs := [.tmp 2, .tmp 3]) Tryz.results292 (by simp) fun w0 => ?_
 refine awp_seq ?_
 refine xa 3 ?_
 refine rg_q (q_box rfl (by exact .inr ⟨_, rfl⟩)) ?_
 refine rg_q (q_a rfl) (rg_q (q_a rfl) ?_)
 refine rs (xa 16 ?_)
 refine rg_q (q_fieldAddr fld366_0 rfl) (rg_q (q_fieldAddr fld364_0 rfl) (rg_q (q_load sz3 rfl rfl) (rg_q (q_fieldAddr fld366_0 rfl) (rg_q (q_fieldAddr fld364_3 rfl) (rg_q (q_load sz3 rfl rfl) ?_)))))
 refine rg_q (q_min rfl rfl) ?_
 refine rg_q (q_fieldAddr fld366_0 rfl) (rg_q (q_fieldAddr fld364_0 rfl) (rg_q (q_load sz3 rfl rfl) (rg_q (q_fieldAddr fld366_0 rfl) (rg_q (q_fieldAddr fld364_3 rfl) (rg_q (q_load sz3 rfl rfl) ?_)))))
 refine rg_q (q_max rfl rfl) ?_
 refine rg_q (q_a rfl) (rg_q (q_a rfl) ?_)
 refine xc (awp_ret ?_)
 refine ⟨_, xk2, ?_⟩
 rfl
theorem has_p (x : Crs) (t : Int) : PC Tryz.prog 282 [.agg (crsC x), .v (.int .i64 (t))] (.v (.bool (inR (loX x) t (hiX x)))) := by
 refine pc_of_awp Tryz.func282 rfl Tryz.ntmps282 (rs := [.tmp 4]) Tryz.results282 (by simp) fun w0 => ?_
 refine awp_seq ?_
 refine xa 2 ?_
 refine rg_q (q_box rfl (by exact .inr ⟨_, rfl⟩)) ?_
 refine rg_q (q_a rfl) ?_
 refine rs (xa 7 ?_)
 refine rg_q (q_loadA (ds := [_, _, _, _, _, _]) sz366 rfl rfl rfl) ?_
 refine rg_q (q_call en292 (.cons rfl .nil) rfl (ends_p _)) ?_
 refine rg_q (q_move (x := .d (.tup _)) rfl) (rg_q (q_extract rfl rfl) (rg_q (q_extract rfl rfl) (rg_q (q_a rfl) (rg_q (q_a rfl) ?_))))
 refine rs (xa 5 ?_)
 refine rg_q (q_m rfl) (rg_q (q_m rfl) (rg_q (q_m rfl) ?_))
 refine rg_q (q_call en186 (.cons rfl (.cons rfl (.cons rfl .nil))) rfl (rwithin_p _ _ _)) ?_
 refine rg_q (q_a rfl) ?_
 refine xc (awp_ret ?_)
 refine ⟨_, xk1, ?_⟩
 rfl
theorem cross1_p (x : Crs) (n : Int) (hx : CrsOk x) (h1 : 0 ≤ n) (h2 : n < hiX x - loX x + 1) : PC Tryz.prog 294 [.v (.int .i64 (n)), .pt (crsC x) 0, .pt [.v (.int .i64 (loX x))] 0] (.v (.bool (decide (0 < slopeI x (loX x + n))))) := by
 have hx0 := hx
 obtain ⟨a1, a2, b1, b2, c1, c2, d1, d2, e1, e2, f1, f2⟩ := hx0
 have hl : -100000 ≤ loX x ∧ hiX x ≤ 100000 := by unfold loX hiX; omega
 refine pc_of_awp Tryz.func294 rfl Tryz.ntmps294 (rs := [.tmp 4]) Tryz.results294 (by simp) fun w0 => ?_
 refine awp_seq ?_
 refine xa 1 ?_
 refine rg_q (q_a rfl) ?_
 refine rs (xa 7 ?_)
 refine rg_q (q_loadA (ds := [_, _, _, _, _, _]) sz366 rfl rfl rfl) ?_
 refine rg_q (q_load sz3 rfl rfl) (rg_q (q_m rfl) ?_)
 refine rg_q (q_add rfl rfl xi) ?_
 refine rg_q (q_call en295 (.cons rfl (.cons rfl .nil)) rfl (slope_p _ _ hx (by omega) (by omega))) ?_
 refine rg_q (q_gtr rfl rfl) (rg_q (q_a rfl) ?_)
 refine xc (awp_ret ?_)
 refine ⟨_, xk1, ?_⟩
 rfl
theorem crossing_p (x : Crs) (hx : CrsOk x) : PC Tryz.prog 280 [.agg (crsC x)] (.v (.int .i64 (crossI x))) := by
 have hx0 := hx
 obtain ⟨a1, a2, b1, b2, c1, c2, d1, d2, e1, e2, f1, f2⟩ := hx0
 have hl : -100000 ≤ loX x ∧ loX x ≤ hiX x ∧ hiX x ≤ 100000 := by unfold loX hiX; omega
 have hs := cross_spec hx
 have hcr : crossI x = loX x - 1 + srch (fun n => decide (0 < slopeI x (loX x + n))) (hiX x - loX x + 1) := rfl
 refine pc_of_awpN Tryz.func280 rfl Tryz.ntmps280 (rs := [.tmp 2]) Tryz.results280 (by simp) fun w0 hmine hrnd hpn => ?_
 refine awp_seq ?_
 refine xa 2 ?_
 refine rg_q (q_box rfl (by exact .inr ⟨_, rfl⟩)) ?_
 refine rg_q (q_a rfl) ?_
 refine rs (xa 5 ?_)
 refine rg_q (q_loadA (ds := [_, _, _, _, _, _]) sz366 rfl rfl rfl) ?_
 refine rg_q (q_call en292 (.cons rfl .nil) rfl (ends_p _)) ?_
 refine rg_q (q_move (x := .d (.tup _)) rfl) (rg_q (q_extract rfl rfl) (rg_q (q_extract rfl rfl) ?_))
 refine rg_nil ?_
 refine aops_alloc zr3 rfl rfl rfl ?_
 refine aops_store sz3 rfl rfl (by exact .inl rfl) rfl rfl (by decide) rfl ?_
 refine aops_q rfl (q_a rfl) ?_
 refine aops_nil (xq ?_)
 refine Awp.le (le_freeze 3 3 0 (cs := [.v (.int .i64 (loX x))]) rfl rfl rfl rfl hmine) ?_
 refine xa 10 ?_
 refine rg_q (q_load sz3 rfl rfl) ?_
 refine rg_q (q_sub rfl rfl xi) ?_
 refine rg_q (q_m rfl) (rg_q (q_load sz3 rfl rfl) ?_)
 refine rg_q (q_sub rfl rfl xi) ?_
 refine rg_q (q_add rfl rfl xi) ?_
 refine rg_q (q_makeFunc (.cons rfl (.cons rfl .nil))) ?_
 refine rg_q (q_call en293 (.cons rfl (.cons rfl .nil)) rfl (search_p (fun n => decide (0 < slopeI x (loX x + n))) 294 [.pt (crsC x) 0, .pt [.v (.int .i64 (loX x))] 0] en294 (hiX x - loX x + 1) (by omega) (fun h a b => cross1_p x h hx a b))) ?_
 refine rg_q (q_add rfl rfl xi) ?_
 refine rg_q (q_a rfl) ?_
 refine xc (awp_ret ?_)
 refine ⟨_, xk1, ?_⟩
 rfl

structure TimIn (r : Rg) : Prop where
  a : 0 ≤ r.1
  b : r.1 ≤ 20000000000
  c : 0 ≤ r.2
  d : r.2 ≤ 20000000000
theorem tim_in {r : Rg} {v : Int} (hr : LenIn r) (h1 : 500 ≤ v) : 0 ≤ (timI r v).1 ∧ (timI r v).1 ≤ 8000000000 ∧ 0 ≤ (timI r v).2 ∧ (timI r v).2 ≤ 8000000000 := by
  obtain ⟨a, b, c, d, e⟩ := hr
  have hv : 0 < v := by omega
  have k : ∀ n : Int, 0 ≤ n → n ≤ 400000000 → 0 ≤ n * 10000 / v ∧ n * 10000 / v ≤ 8000000000 := fun n h0 h2 => by
    refine ⟨Int.ediv_nonneg (by omega) (by omega), ?_⟩
    have := Int.ediv_le_ediv hv (show n * 10000 ≤ 8000000000 * v by omega)
    rwa [Int.mul_ediv_cancel _ (by omega)] at this
  have k2 : ∀ n : Int, 0 ≤ n → n ≤ 400000000 → 0 ≤ ceilI (n * 10000) v ∧ ceilI (n * 10000) v ≤ 8000000000 := fun n h0 h2 => by
    unfold ceilI
    constructor
    · have := Int.ediv_le_ediv hv (show -(n * 10000) ≤ 0 by omega)
      rw [Int.zero_ediv] at this; omega
    · have := Int.ediv_le_ediv hv (show (-8000000000) * v ≤ -(n * 10000) by omega)
      rw [Int.mul_ediv_cancel _ (by omega)] at this; omega
  unfold timI
  exact ⟨(k _ a b).1, (k _ a b).2, (k2 _ c d).1, (k2 _ c d).2⟩
theorem timeAt_in {x : Crs} {t : Int} (hx : CrsOk x) (h1 : -100000 ≤ t) (h2 : t ≤ 100000) : TimIn (timeAtI x t) := by
  obtain ⟨a1, a2, b1, b2, c1, c2, d1, d2, e1, e2, f1, f2⟩ := hx
  obtain ⟨p1, p2, p3, p4⟩ := tim_in (len_in (x := t - x.x1) (z := x.h1) (by omega) (by omega) (by omega) (by omega)) e1
  obtain ⟨q1, q2, q3, q4⟩ := tim_in (len_in (x := x.x2 - t) (z := x.h2) (by omega) (by omega) (by omega) (by omega)) f1
  unfold timeAtI
  exact ⟨by simp only; omega, by simp only; omega, by simp only; omega, by simp only; omega⟩
theorem timeAt_p (x : Crs) (t : Int) (hx : CrsOk x) (h1 : -100000 ≤ t) (h2 : t ≤ 100000) : PC Tryz.prog 281 [.agg (crsC x), .v (.int .i64 (t))] (.agg [.v (.int .i64 ((timeAtI x t).1)), .v (.int .i64 ((timeAtI x t).2))]) := by
 obtain ⟨a1, a2, b1, b2, c1, c2, d1, d2, e1, e2, f1, f2⟩ := hx
 have l1 := len_in (x := t - x.x1) (z := x.h1) (by omega) (by omega) (by omega) (by omega)
 have l2 := len_in (x := x.x2 - t) (z := x.h2) (by omega) (by omega) (by omega) (by omega)
 obtain ⟨p1, p2, p3, p4⟩ := tim_in l1 e1
 obtain ⟨q1, q2, q3, q4⟩ := tim_in l2 f1
 refine pc_of_awp Tryz.func281 rfl Tryz.ntmps281 (rs := [.cell 4 56]) Tryz.results281 (by simp) fun w0 => ?_
 refine awp_seq ?_
 refine xa 1 ?_
 refine rg_q (q_box rfl (by exact .inr ⟨_, rfl⟩)) ?_
 refine rg_nil ?_
 refine aops_alloc zr56 rfl rfl rfl ?_
 refine aops_nil (xq (xa 27 ?_))
 refine rg_q (q_m rfl) (rg_q (q_fieldAddr fld366_0 rfl) (rg_q (q_fieldAddr fld364_0 rfl) (rg_q (q_load sz3 rfl rfl) ?_)))
 refine rg_q (q_sub rfl rfl xi) ?_
 refine rg_q (q_fieldAddr fld366_0 rfl) (rg_q (q_fieldAddr fld364_1 rfl) (rg_q (q_load sz3 rfl rfl) ?_))
 refine rg_q (q_call en297 (.cons rfl (.cons rfl .nil)) rfl (length_p _ _ (by omega) (by omega) (by omega) (by omega))) ?_
 refine rg_q (q_fieldAddr fld366_0 rfl) (rg_q (q_fieldAddr fld364_2 rfl) (rg_q (q_load sz3 rfl rfl) ?_))
 refine rg_q (q_call en296 (.cons rfl (.cons rfl .nil)) rfl (time_p (lenI (t - x.x1) x.h1) x.v1 l1 e1)) ?_
 refine rg_q (q_fieldAddr fld366_0 rfl) (rg_q (q_fieldAddr fld364_3 rfl) (rg_q (q_load sz3 rfl rfl) (rg_q (q_m rfl) ?_)))
 refine rg_q (q_sub rfl rfl xi) ?_
 refine rg_q (q_fieldAddr fld366_0 rfl) (rg_q (q_fieldAddr fld364_4 rfl) (rg_q (q_load sz3 rfl rfl) ?_))
 refine rg_q (q_call en297 (.cons rfl (.cons rfl .nil)) rfl (length_p _ _ (by omega) (by omega) (by omega) (by omega))) ?_
 refine rg_q (q_fieldAddr fld366_0 rfl) (rg_q (q_fieldAddr fld364_5 rfl) (rg_q (q_load sz3 rfl rfl) ?_))
 refine rg_q (q_call en296 (.cons rfl (.cons rfl .nil)) rfl (time_p (lenI (x.x2 - t) x.h2) x.v2 l2 f1)) ?_
 refine rg_q (q_call en269 (.cons rfl (.cons rfl .nil)) rfl (plus_p (timI (lenI (t - x.x1) x.h1) x.v1) (timI (lenI (x.x2 - t) x.h2) x.v2) (by omega) (by omega) (by omega) (by omega) (by omega) (by omega) (by omega) (by omega))) ?_
 refine rg_nil ?_
 refine aops_store sz56 rfl rfl (by exact .inr ⟨_, rfl⟩) rfl rfl (by decide) rfl ?_
 refine aops_nil ?_
 change Awp _ _ _ _ _
 refine awp_ret ?_
 refine ⟨_, (.cons (.cellA rfl rfl sz56 rfl) .nil), ?_⟩
 rfl

theorem up_in {n d : Int} (hn : 0 ≤ n) (hd : 0 < d) : 0 ≤ ceilI n d ∧ ceilI n d ≤ n := by
  unfold ceilI
  have h1 := Int.ediv_le_ediv hd (show -n ≤ 0 by omega)
  rw [Int.zero_ediv] at h1
  refine ⟨by omega, ?_⟩
  have h2 : (-n) ≤ (-n) / d := by
    rw [Int.le_ediv_iff_mul_le hd]
    have := Int.mul_le_mul_of_nonneg_left (show (1 : Int) ≤ d by omega) hn
    grind
  omega
theorem least_in {x : Crs} (hx : CrsOk x) : TimIn (leastI x) := by
  have hs := cross_spec hx
  have hx0 := hx
  obtain ⟨a1, a2, b1, b2, c1, c2, d1, d2, e1, e2, f1, f2⟩ := hx0
  have hl : -100000 ≤ loX x ∧ hiX x ≤ 100000 := by unfold loX hiX; omega
  obtain ⟨p1, p2, p3, p4⟩ := timeAt_in (t := crossI x) hx (by omega) (by omega)
  have u1 := up_in (n := 10000000) (d := x.v1 * x.h1) (by omega) (Int.mul_pos (by omega) (by omega))
  have u2 := up_in (n := 10000000) (d := x.v2 * x.h2) (by omega) (Int.mul_pos (by omega) (by omega))
  have h0 : 0 ≤ (least0 x).1 ∧ (least0 x).1 ≤ 20000000000 ∧ 0 ≤ (least0 x).2 ∧ (least0 x).2 ≤ 20000000000 := by
    unfold least0
    split
    · rename_i h
      simp [inR] at h
      obtain ⟨q1, q2, q3, q4⟩ := timeAt_in (t := crossI x + 1) hx (by omega) (by omega)
      simp only; omega
    · omega
  unfold leastI
  exact ⟨by simp only; omega, by simp only; omega, by simp only; omega, by simp only; omega⟩
theorem least_p (x : Crs) (hx : CrsOk x) : PC Tryz.prog 270 [.agg (crsC x)] (.agg [.v (.int .i64 ((leastI x).1)), .v (.int .i64 ((leastI x).2))]) := by
 have hs := cross_spec hx
 have hx0 := hx
 obtain ⟨a1, a2, b1, b2, c1, c2, d1, d2, e1, e2, f1, f2⟩ := hx0
 have hl : -100000 ≤ loX x ∧ hiX x ≤ 100000 := by unfold loX hiX; omega
 obtain ⟨p1, p2, p3, p4⟩ := timeAt_in (t := crossI x) hx (by omega) (by omega)
 have m1 := mulb (a := x.v1) (b := x.h1) (A := 10000) (B := 100000) (by omega) (by omega) (by omega) (by omega)
 have m2 := mulb (a := x.v2) (b := x.h2) (A := 10000) (B := 100000) (by omega) (by omega) (by omega) (by omega)
 have m3 := Int.mul_pos (show 0 < x.v1 by omega) (show 0 < x.h1 by omega)
 have m4 := Int.mul_pos (show 0 < x.v2 by omega) (show 0 < x.h2 by omega)
 have u1 := up_in (n := 10000000) (d := x.v1 * x.h1) (by omega) m3
 have u2 := up_in (n := 10000000) (d := x.v2 * x.h2) (by omega) m4
 refine pc_of_awp Tryz.func270 rfl Tryz.ntmps270 (rs := [.cell 2 56]) Tryz.results270 (by simp) fun w0 => ?_
 refine awp_seq ?_
 refine xa 1 ?_
 refine rg_q (q_box rfl (by exact .inr ⟨_, rfl⟩)) ?_
 refine rg_nil ?_
 refine aops_alloc zr56 rfl rfl rfl ?_
 refine aops_nil (xq (xa 3 ?_))
 refine rg_q (q_loadA (ds := [_, _, _, _, _, _]) sz366 rfl rfl rfl) ?_
 refine rg_q (q_call en280 (.cons rfl .nil) rfl (crossing_p _ hx)) ?_
 refine rg_q (q_a rfl) ?_
 refine rs (xa 3 ?_)
 refine rg_q (q_loadA (ds := [_, _, _, _, _, _]) sz366 rfl rfl rfl) ?_
 refine rg_q (q_m rfl) ?_
 refine rg_q (q_call en281 (.cons rfl (.cons rfl .nil)) rfl (timeAt_p _ _ hx (by omega) (by omega))) ?_
 refine rg_nil ?_
 refine aops_alloc zr56 rfl rfl rfl ?_
 refine aops_store sz56 rfl rfl (by exact .inr ⟨_, rfl⟩) rfl rfl (by decide) rfl ?_
 refine aops_nil (xq (awp_seq ?_))
 refine xa 4 ?_
 refine rg_q (q_loadA (ds := [_, _, _, _, _, _]) sz366 rfl rfl rfl) ?_
 refine rg_q (q_m rfl) ?_
 refine rg_q (q_add rfl rfl xi) ?_
 refine rg_q (q_call en282 (.cons rfl (.cons rfl .nil)) rfl (has_p _ _)) ?_
 refine xc (awp_cond rfl (fun hc3 => ?_) (fun hc3 => ?_))
 ·
  (try simp only [nb, ne_eq] at hc3)
  have hz : least0 x = (min (timeAtI x (crossI x)).1 (timeAtI x (crossI x + 1)).1, min (timeAtI x (crossI x)).2 (timeAtI x (crossI x + 1)).2) := by unfold least0; rw [if_pos hc3]
  have hc3' := hc3
  simp [inR] at hc3'
  obtain ⟨q1, q2, q3, q4⟩ := timeAt_in (t := crossI x + 1) hx (by omega) (by omega)
  refine awp_seq ?_
  refine xa 4 ?_
  refine rg_q (q_loadA (ds := [_, _, _, _, _, _]) sz366 rfl rfl rfl) ?_
  refine rg_q (q_m rfl) ?_
  refine rg_q (q_add rfl rfl xi) ?_
  refine rg_q (q_call en281 (.cons rfl (.cons rfl .nil)) rfl (timeAt_p _ _ hx (by omega) (by omega))) ?_
  refine rg_nil ?_
  refine aops_alloc zr56 rfl rfl rfl ?_
  refine aops_store sz56 rfl rfl (by exact .inr ⟨_, rfl⟩) rfl rfl (by decide) rfl ?_
  refine aops_nil ?_
  change Awp _ _ _ _ _
  refine xa 11 ?_
  refine rg_q (q_fieldAddr_ref fld56_0 rfl) (rg_q (q_load_ref sz3 rfl rfl rfl) (rg_q (q_fieldAddr_ref fld56_0 rfl) (rg_q (q_load_ref sz3 rfl rfl rfl) ?_)))
  refine rg_q (q_min rfl rfl) ?_
  refine rg_q (q_fieldAddr_ref fld56_1 rfl) (rg_q (q_load_ref sz3 rfl rfl rfl) (rg_q (q_fieldAddr_ref fld56_1 rfl) (rg_q (q_load_ref sz3 rfl rfl rfl) ?_)))
  refine rg_q (q_min rfl rfl) ?_
  refine rg_q (q_build (cs := [_, _]) pl56 zr56 rfl (.cons rfl (by exact .inl rfl) (.cons rfl (by exact .inl rfl) .nil)) ⟨⟨rfl, by decide⟩, ⟨rfl, by decide⟩, trivial⟩ rfl) ?_
  refine rg_nil ?_
  refine aops_store sz56 rfl rfl (by exact .inr ⟨_, rfl⟩) rfl rfl (by exact Nat.le_of_ble_eq_true rfl) rfl ?_
  refine aops_nil (xq (xa 22 ?_))
  refine rg_q (q_fieldAddr_ref fld56_0 rfl) (rg_q (q_load_ref sz3 rfl rfl rfl) (rg_q (q_fieldAddr fld366_0 rfl) (rg_q (q_fieldAddr fld364_2 rfl) (rg_q (q_load sz3 rfl rfl) (rg_q (q_fieldAddr fld366_0 rfl) ?_)))))
  refine rg_q (q_fieldAddr fld364_1 rfl) (rg_q (q_load sz3 rfl rfl) ?_)
  refine rg_q (q_mul rfl rfl xi) ?_
  refine rg_q (q_call en283 (.cons rfl (.cons rfl .nil)) rfl (up_p _ _ ⟨by omega, by omega⟩ (by omega))) ?_
  refine rg_q (q_sub rfl rfl xi) ?_
  refine rg_q (q_fieldAddr fld366_0 rfl) (rg_q (q_fieldAddr fld364_5 rfl) (rg_q (q_load sz3 rfl rfl) (rg_q (q_fieldAddr fld366_0 rfl) (rg_q (q_fieldAddr fld364_4 rfl) (rg_q (q_load sz3 rfl rfl) ?_)))))
  refine rg_q (q_mul rfl rfl xi) ?_
  refine rg_q (q_call en283 (.cons rfl (.cons rfl .nil)) rfl (up_p _ _ ⟨by omega, by omega⟩ (by omega))) ?_
  refine rg_q (q_sub rfl rfl xi) ?_
  refine rg_q (q_max rfl rfl) ?_
  refine rg_q (q_fieldAddr_ref fld56_0 rfl) ?_
  refine rg_nil ?_
  refine aops_store sz3 rfl rfl (by exact .inl rfl) rfl rfl (by exact Nat.le_of_ble_eq_true rfl) rfl ?_
  refine aops_nil (xq (xa 1 ?_))
  refine rg_q (q_load_refA (ds := [_, _]) sz56 rfl rfl rfl rfl) ?_
  refine rg_nil ?_
  refine aops_store sz56 rfl rfl (by exact .inr ⟨_, rfl⟩) rfl rfl (by decide) rfl ?_
  refine aops_nil ?_
  change Awp _ _ _ _ _
  refine awp_ret ?_
  refine ⟨_, (.cons (.cellA rfl rfl sz56 rfl) .nil), ?_⟩
  unfold leastI; rw [hz]; rfl
 ·
  (try simp only [nb, ne_eq] at hc3)
  have hz : least0 x = timeAtI x (crossI x) := by unfold least0; rw [if_neg (by simpa using hc3)]
  refine awp_skip ?_
  change Awp _ _ _ _ _
  refine awp_seq ?_
  refine xa 22 ?_
  refine rg_q (q_fieldAddr_ref fld56_0 rfl) (rg_q (q_load_ref sz3 rfl rfl rfl) (rg_q (q_fieldAddr fld366_0 rfl) (rg_q (q_fieldAddr fld364_2 rfl) (rg_q (q_load sz3 rfl rfl) (rg_q (q_fieldAddr fld366_0 rfl) ?_)))))
  refine rg_q (q_fieldAddr fld364_1 rfl) (rg_q (q_load sz3 rfl rfl) ?_)
  refine rg_q (q_mul rfl rfl xi) ?_
  refine rg_q (q_call en283 (.cons rfl (.cons rfl .nil)) rfl (up_p _ _ ⟨by omega, by omega⟩ (by omega))) ?_
  refine rg_q (q_sub rfl rfl xi) ?_
  refine rg_q (q_fieldAddr fld366_0 rfl) (rg_q (q_fieldAddr fld364_5 rfl) (rg_q (q_load sz3 rfl rfl) (rg_q (q_fieldAddr fld366_0 rfl) (rg_q (q_fieldAddr fld364_4 rfl) (rg_q (q_load sz3 rfl rfl) ?_)))))
  refine rg_q (q_mul rfl rfl xi) ?_
  refine rg_q (q_call en283 (.cons rfl (.cons rfl .nil)) rfl (up_p _ _ ⟨by omega, by omega⟩ (by omega))) ?_
  refine rg_q (q_sub rfl rfl xi) ?_
  refine rg_q (q_max rfl rfl) ?_
  refine rg_q (q_fieldAddr_ref fld56_0 rfl) ?_
  refine rg_nil ?_
  refine aops_store sz3 rfl rfl (by exact .inl rfl) rfl rfl (by exact Nat.le_of_ble_eq_true rfl) rfl ?_
  refine aops_nil (xq (xa 1 ?_))
  refine rg_q (q_load_refA (ds := [_, _]) sz56 rfl rfl rfl rfl) ?_
  refine rg_nil ?_
  refine aops_store sz56 rfl rfl (by exact .inr ⟨_, rfl⟩) rfl rfl (by decide) rfl ?_
  refine aops_nil ?_
  change Awp _ _ _ _ _
  refine awp_ret ?_
  refine ⟨_, (.cons (.cellA rfl rfl sz56 rfl) .nil), ?_⟩
  unfold leastI; rw [hz]; rfl
end Go.Proofs.YtamaocfjknpadaaGreat.Am.M
-- mini
set_option maxRecDepth 100000
namespace Go.Proofs.YtamaocfjknpadaaGreat.Am.M
open Go

structure Md where
  w : Int
  m : Int
  k : Int
  t : Int
def mdC (x : Md) : List D := [.v (.int .i64 x.w), .v (.int .i64 x.m), .v (.int .i64 x.k), .v (.int .i64 x.t)]
def speedE (v : Int) : Int := mustI (inR 500 v 10000) 2
def modeE (m : Md) : Int := firstE [speedE m.w, speedE m.m, mustI (inR 0 m.k 4 && inR 2 m.t 20000) 2]
def spotB (p : Int × Int) : Bool := inR (-100000) p.1 100000 && inR (-100000) p.2 100000
def spotE (p : Int × Int) : Int := mustI (spotB p) 2
theorem must_zero {b : Bool} {e : Int} (he : e ≠ 0) : mustI b e = 0 ↔ b = true := by unfold mustI; split <;> simp_all
theorem first_zero : ∀ {l : List Int}, firstE l = 0 ↔ ∀ x ∈ l, x = 0
  | [] => by simp [firstE]
  | x :: xs => by
    unfold firstE
    by_cases h : x = 0
    · rw [if_pos h, first_zero]; simp [h]
    · rw [if_neg h]; simp [h]
structure MdOk (m : Md) : Prop where
  w1 : 500 ≤ m.w
  w2 : m.w ≤ 10000
  m1 : 500 ≤ m.m
  m2 : m.m ≤ 10000
  k1 : 0 ≤ m.k
  k2 : m.k ≤ 4
  t1 : 2 ≤ m.t
  t2 : m.t ≤ 20000
theorem mode_ok {m : Md} : modeE m = 0 ↔ MdOk m := by
  unfold modeE speedE
  rw [first_zero]
  simp only [List.mem_cons, List.not_mem_nil, or_false, forall_eq_or_imp, forall_eq, must_zero (show (2 : Int) ≠ 0 by omega), inR, Bool.and_eq_true, decide_eq_true_eq]
  exact ⟨fun ⟨⟨a, b⟩, ⟨c, d⟩, ⟨e, f⟩, g, h⟩ => ⟨a, b, c, d, e, f, g, h⟩, fun ⟨a, b, c, d, e, f, g, h⟩ => ⟨⟨a, b⟩, ⟨c, d⟩, ⟨e, f⟩, g, h⟩⟩
theorem spot_ok {p : Int × Int} : spotE p = 0 ↔ (-100000 ≤ p.1 ∧ p.1 ≤ 100000) ∧ -100000 ≤ p.2 ∧ p.2 ≤ 100000 := by
  unfold spotE spotB
  rw [must_zero (by omega)]
  simp [inR]
theorem isThick_p (n : Int) : PC Tryz.prog 187 [.v (.int .i64 (n))] (.v (.bool (inR 2 n 20000))) := by
 refine pc_of_awp Tryz.func187 rfl Tryz.ntmps187 (rs := [.tmp 2]) Tryz.results187 (by simp) fun w0 => ?_
 refine awp_seq ?_
 refine xa 1 ?_
 refine rg_q (q_a rfl) ?_
 refine rs (xa 3 ?_)
 refine rg_q (q_m rfl) ?_
 refine rg_q (q_call en186 (.cons rfl (.cons rfl (.cons rfl .nil))) rfl (rwithin_p _ _ _)) ?_
 refine rg_q (q_a rfl) ?_
 refine xc (awp_ret ?_)
 refine ⟨_, xk1, ?_⟩
 rfl
theorem speedErr_p (v : Int) : PC Tryz.prog 184 [.v (.int .i64 (v))] (.v (.int .i64 (speedE v))) := by
 refine pc_of_awp Tryz.func184 rfl Tryz.ntmps184 (rs := [.tmp 2]) Tryz.results184 (by simp) fun w0 => ?_
 refine awp_seq ?_
 refine xa 1 ?_
 refine rg_q (q_a rfl) ?_
 refine rs (xa 4 ?_)
 refine rg_q (q_m rfl) ?_
 refine rg_q (q_call en186 (.cons rfl (.cons rfl (.cons rfl .nil))) rfl (rwithin_p _ _ _)) ?_
 refine rg_q (q_call en185 (.cons rfl (.cons rfl .nil)) rfl (must_p _ _)) ?_
 refine rg_q (q_a rfl) ?_
 refine xc (awp_ret ?_)
 refine ⟨_, xk1, ?_⟩
 rfl
theorem checkMode_p (m : Md) : PC Tryz.prog 122 [.agg (mdC m)] (.v (.int .i64 (modeE m))) := by
 refine pc_of_awp Tryz.func122 rfl Tryz.ntmps122 (rs := [.tmp 2]) Tryz.results122 (by simp) fun w0 => ?_
 refine awp_seq ?_
 refine xa 2 ?_
 refine rg_q (q_box rfl (by exact .inr ⟨_, rfl⟩)) ?_
 refine rg_q (q_a rfl) ?_
 refine rs (xa 18 ?_)
 refine rg_q (q_fieldAddr fld24_0 rfl) (rg_q (q_load sz3 rfl rfl) ?_)
 refine rg_q (q_call en184 (.cons rfl .nil) rfl (speedErr_p _)) ?_
 refine rg_q (q_fieldAddr fld24_1 rfl) (rg_q (q_load sz3 rfl rfl) ?_)
 refine rg_q (q_call en184 (.cons rfl .nil) rfl (speedErr_p _)) ?_
 refine rg_q (q_fieldAddr fld24_2 rfl) (rg_q (q_load sz3 rfl rfl) ?_)
 refine rg_q (q_call en186 (.cons rfl (.cons rfl (.cons rfl .nil))) rfl (rwithin_p _ _ _)) ?_
 refine rg_q (q_m rfl) ?_
 refine rg_g rfl rfl (fun hG => (q_fieldAddr fld24_3 rfl)) ?_
 refine rg_g rfl rfl (fun hG => (q_load sz3 rfl rfl)) ?_
 refine rg_g rfl rfl (fun hG => (q_call en187 (.cons rfl .nil) rfl (isThick_p _))) ?_
 refine rg_pick rfl rfl rfl rfl rfl rfl ?_
 refine rg_q (q_call en185 (.cons rfl (.cons rfl .nil)) rfl (must_p _ _)) ?_
 refine rg_q (q_buildSlice sl282 zr40 rfl rfl (by decide) (.cons rfl (by exact .inl rfl) (.cons rfl (by exact .inl rfl) (.cons rfl (by exact .inl rfl) .nil))) ⟨rfl, rfl, rfl, rfl, rfl, rfl, trivial⟩ rfl (by decide) rfl) ?_
 refine rg_q (q_call en183 (.cons rfl .nil) rfl (rfirst_p [_, _, _])) ?_
 refine rg_q (q_a rfl) ?_
 refine xc (awp_ret ?_)
 refine ⟨_, xk1, ?_⟩
 simp only [bif_and]; rfl
theorem rspotErr_p (p : Int × Int) : PC Tryz.prog 278 [.agg (shC p)] (.v (.int .i64 (spotE p))) := by
 refine pc_of_awp Tryz.func278 rfl Tryz.ntmps278 (rs := [.tmp 2]) Tryz.results278 (by simp) fun w0 => ?_
 refine awp_seq ?_
 refine xa 2 ?_
 refine rg_q (q_box rfl (by exact .inr ⟨_, rfl⟩)) ?_
 refine rg_q (q_a rfl) ?_
 refine rs (xa 10 ?_)
 refine rg_q (q_fieldAddr fld33_0 rfl) (rg_q (q_load sz3 rfl rfl) ?_)
 refine rg_q (q_call en291 (.cons rfl (.cons rfl .nil)) rfl (rsmall_p _ _ (by omega) (by omega))) ?_
 refine rg_q (q_m rfl) ?_
 refine rg_g rfl rfl (fun hG => (q_fieldAddr fld33_1 rfl)) ?_
 refine rg_g rfl rfl (fun hG => (q_load sz3 rfl rfl)) ?_
 refine rg_g rfl rfl (fun hG => (q_call en291 (.cons rfl (.cons rfl .nil)) rfl (rsmall_p _ _ (by omega) (by omega)))) ?_
 refine rg_pick rfl rfl rfl rfl rfl rfl ?_
 refine rg_q (q_call en185 (.cons rfl (.cons rfl .nil)) rfl (must_p _ _)) ?_
 refine rg_q (q_a rfl) ?_
 refine xc (awp_ret ?_)
 refine ⟨_, xk1, ?_⟩
 simp only [bif_and]; rfl

def unfI (m : Md) (z : Int) : Int := if m.k.tmod 2 = 1 then m.k * m.t + (m.t - z) else m.k * m.t + z
theorem kt_bounds {m : Md} (h : MdOk m) : 0 ≤ m.k * m.t ∧ m.k * m.t ≤ 80000 := by
  obtain ⟨_, _, _, _, k1, k2, t1, t2⟩ := h
  have := mulb (a := m.k) (b := m.t) (A := 4) (B := 20000) (by omega) (by omega) (by omega) (by omega)
  exact ⟨Int.mul_nonneg k1 (by omega), by omega⟩
theorem unfolded_p (m : Md) (z : Int) (hm : MdOk m) (h1 : -100000 ≤ z) (h2 : z ≤ 100000) : PC Tryz.prog 279 [.agg (mdC m), .v (.int .i64 (z))] (.v (.int .i64 (unfI m z))) := by
 obtain ⟨b1, b2⟩ := kt_bounds hm
 obtain ⟨w1, w2, m1, m2, k1, k2, t1, t2⟩ := hm
 refine pc_of_awp Tryz.func279 rfl Tryz.ntmps279 (rs := [.tmp 4]) Tryz.results279 (by simp) fun w0 => ?_
 refine awp_seq ?_
 refine xa 2 ?_
 refine rg_q (q_box rfl (by exact .inr ⟨_, rfl⟩)) ?_
 refine rg_q (q_a rfl) ?_
 refine rs (awp_seq ?_)
 refine xa 4 ?_
 refine rg_q (q_fieldAddr fld24_2 rfl) (rg_q (q_load sz3 rfl rfl) ?_)
 refine rg_q (q_rem rfl rfl (by omega)) ?_
 refine rg_q (q_eql rfl rfl) ?_
 refine xc (awp_cond rfl (fun hc1 => ?_) (fun hc1 => ?_))
 ·
  (try simp only [nb, ne_eq] at hc1)
  have hz : unfI m z = m.k * m.t + (m.t - z) := by unfold unfI; rw [if_pos hc1]
  refine xa 5 ?_
  refine rg_q (q_fieldAddr fld24_3 rfl) (rg_q (q_load sz3 rfl rfl) (rg_q (q_m rfl) ?_))
  refine rg_q (q_sub rfl rfl xi) ?_
  refine rg_q (q_a rfl) ?_
  refine rs (xa 8 ?_)
  refine rg_q (q_fieldAddr fld24_2 rfl) (rg_q (q_load sz3 rfl rfl) (rg_q (q_fieldAddr fld24_3 rfl) (rg_q (q_load sz3 rfl rfl) ?_)))
  refine rg_q (q_mul rfl rfl xi) ?_
  refine rg_q (q_m rfl) ?_
  refine rg_q (q_add rfl rfl xi) ?_
  refine rg_q (q_a rfl) ?_
  refine xc (awp_ret ?_)
  refine ⟨_, xk1, ?_⟩
  rw [hz]; rfl
 ·
  (try simp only [nb, ne_eq] at hc1)
  have hz : unfI m z = m.k * m.t + z := by unfold unfI; rw [if_neg (by simpa using hc1)]
  refine awp_skip ?_
  change Awp _ _ _ _ _
  refine awp_seq ?_
  refine xa 8 ?_
  refine rg_q (q_fieldAddr fld24_2 rfl) (rg_q (q_load sz3 rfl rfl) (rg_q (q_fieldAddr fld24_3 rfl) (rg_q (q_load sz3 rfl rfl) ?_)))
  refine rg_q (q_mul rfl rfl xi) ?_
  refine rg_q (q_m rfl) ?_
  refine rg_q (q_add rfl rfl xi) ?_
  refine rg_q (q_a rfl) ?_
  refine xc (awp_ret ?_)
  refine ⟨_, xk1, ?_⟩
  rw [hz]; rfl

def wayE (m : Md) (a b : Int × Int) : Int := firstE [spotE a, spotE b, mustI (decide (a.2 < 0)) 15, mustI (inR 1 b.2 (m.t - 1)) 22]
def crs0 : Crs := ⟨0, 0, 0, 0, 0, 0⟩
def wayI (m : Md) (a b : Int × Int) : Crs × Int := if wayE m a b ≠ 0 then (crs0, wayE m a b) else if 100000 < unfI m b.2 then (crs0, 8) else (⟨a.1, -a.2, m.w, b.1, unfI m b.2, m.m⟩, 0)
theorem wayE_ok {m : Md} {a b : Int × Int} (h : wayE m a b = 0) : ((-100000 ≤ a.1 ∧ a.1 ≤ 100000) ∧ -100000 ≤ a.2 ∧ a.2 ≤ 100000) ∧ ((-100000 ≤ b.1 ∧ b.1 ≤ 100000) ∧ -100000 ≤ b.2 ∧ b.2 ≤ 100000) ∧ a.2 < 0 ∧ 1 ≤ b.2 ∧ b.2 ≤ m.t - 1 := by
  unfold wayE at h
  rw [first_zero] at h
  simp only [List.mem_cons, List.not_mem_nil, or_false, forall_eq_or_imp, forall_eq, must_zero (show (15 : Int) ≠ 0 by omega), must_zero (show (22 : Int) ≠ 0 by omega), spot_ok, inR, Bool.and_eq_true, decide_eq_true_eq] at h
  obtain ⟨h1, h2, h3, h4⟩ := h
  exact ⟨h1, h2, h3, h4⟩
theorem unf_pos {m : Md} (hm : MdOk m) {z : Int} (h1 : 1 ≤ z) (h2 : z ≤ m.t - 1) : 1 ≤ unfI m z ∧ unfI m z ≤ 100000 := by
  obtain ⟨b1, b2⟩ := kt_bounds hm
  obtain ⟨w1, w2, m1, m2, k1, k2, t1, t2⟩ := hm
  unfold unfI
  split <;> omega
theorem way_law {m : Md} (hm : MdOk m) {a b : Int × Int} (h : wayE m a b = 0) : wayI m a b = (⟨a.1, -a.2, m.w, b.1, unfI m b.2, m.m⟩, 0) ∧ CrsOk (wayI m a b).1 := by
  obtain ⟨⟨h1, h2⟩, ⟨h3, h4⟩, h5, h6, h7⟩ := wayE_ok h
  have hu := unf_pos hm h6 h7
  have e : wayI m a b = (⟨a.1, -a.2, m.w, b.1, unfI m b.2, m.m⟩, 0) := by unfold wayI; rw [if_neg (by rw [h]; simp), if_neg (by omega)]
  obtain ⟨w1, w2, m1, m2, k1, k2, t1, t2⟩ := hm
  rw [e]
  exact ⟨rfl, ⟨by simp only; omega, by simp only; omega, by simp only; omega, by simp only; omega, by simp only; omega, by simp only; omega, by simp only; omega, by simp only; omega, w1, w2, m1, m2⟩⟩
theorem way_p (m : Md) (a b : Int × Int) (hm : MdOk m) : PC Tryz.prog 268 [.agg (mdC m), .agg (shC a), .agg (shC b)] (.tup [.agg (crsC ((wayI m a b).1)), .v (.int .i64 ((wayI m a b).2))]) := by
 have hm0 := hm
 obtain ⟨w1, w2, m1, m2, k1, k2, t1, t2⟩ := hm0
 refine pc_of_awp Tryz.func268 rfl Tryz.ntmps268 (rs := [.cell 6 366, .tmp 7]) Tryz.results268 (by simp) fun w0 => ?_
 refine awp_seq ?_
 refine xa 3 ?_
 refine rg_q (q_box rfl (by exact .inr ⟨_, rfl⟩)) ?_
 refine rg_q (q_box rfl (by exact .inr ⟨_, rfl⟩)) ?_
 refine rg_q (q_box rfl (by exact .inr ⟨_, rfl⟩)) ?_
 refine rg_nil ?_
 refine aops_alloc zr366 rfl rfl rfl ?_
 refine aops_q rfl (q_a rfl) ?_
 refine aops_nil (xq (xa 18 ?_))
 refine rg_q (q_loadA (ds := [_, _]) sz33 rfl rfl rfl) ?_
 refine rg_q (q_call en278 (.cons rfl .nil) rfl (rspotErr_p _)) ?_
 refine rg_q (q_loadA (ds := [_, _]) sz33 rfl rfl rfl) ?_
 refine rg_q (q_call en278 (.cons rfl .nil) rfl (rspotErr_p _)) ?_
 refine rg_q (q_fieldAddr fld33_1 rfl) (rg_q (q_load sz3 rfl rfl) (rg_q (q_lss rfl rfl) ?_))
 refine rg_q (q_call en185 (.cons rfl (.cons rfl .nil)) rfl (must_p _ _)) ?_
 refine rg_q (q_fieldAddr fld33_1 rfl) (rg_q (q_load sz3 rfl rfl) (rg_q (q_fieldAddr fld24_3 rfl) (rg_q (q_load sz3 rfl rfl) ?_)))
 refine rg_q (q_sub rfl rfl xi) ?_
 refine rg_q (q_call en186 (.cons rfl (.cons rfl (.cons rfl .nil))) rfl (rwithin_p _ _ _)) ?_
 refine rg_q (q_call en185 (.cons rfl (.cons rfl .nil)) rfl (must_p _ _)) ?_
 refine rg_q (q_buildSlice sl282 zr40 rfl rfl (by decide) (.cons rfl (by exact .inl rfl) (.cons rfl (by exact .inl rfl) (.cons rfl (by exact .inl rfl) (.cons rfl (by exact .inl rfl) .nil)))) ⟨rfl, rfl, rfl, rfl, rfl, rfl, rfl, rfl, trivial⟩ rfl (by decide) rfl) ?_
 refine rg_q (q_call en183 (.cons rfl .nil) rfl (rfirst_p [_, _, _, _])) ?_
 refine rg_q (q_a rfl) ?_
 refine rs (awp_seq ?_)
 refine xa 2 ?_
 refine rg_q (q_m rfl) (rg_q (q_neq rfl rfl) ?_)
 refine xc (awp_cond rfl (fun hc2 => ?_) (fun hc2 => ?_))
 ·
  (try simp only [nb, ne_eq] at hc2)
  have he : wayE m a b ≠ 0 := hc2
  have hz : wayI m a b = (crs0, wayE m a b) := by unfold wayI; rw [if_pos he]
  refine awp_seq ?_
  refine xa 2 ?_
  refine rg_q (q_build (cs := [_, _, _, _, _, _]) pl366 zr366 rfl .nil trivial rfl) ?_
  refine rg_q (q_m rfl) ?_
  refine rg_nil ?_
  refine aops_store sz366 rfl rfl (by exact .inr ⟨_, rfl⟩) rfl rfl (by decide) rfl ?_
  refine aops_q rfl (q_a rfl) ?_
  refine aops_nil ?_
  change Awp _ _ _ _ _
  refine awp_ret ?_
  refine ⟨_, (.cons (.cellA rfl rfl sz366 rfl) xk1), ?_⟩
  rw [hz]; rfl
 ·
  (try simp only [nb, ne_eq] at hc2)
  have he : wayE m a b = 0 := hc2
  obtain ⟨⟨g1, g2⟩, ⟨g3, g4⟩, g5, g6, g7⟩ := wayE_ok he
  have hz := (way_law hm he).1
  have hu := unf_pos hm g6 g7
  refine awp_skip ?_
  change Awp _ _ _ _ _
  refine awp_seq ?_
  refine xa 5 ?_
  refine rg_q (q_loadA (ds := [_, _, _, _]) sz24 rfl rfl rfl) ?_
  refine rg_q (q_fieldAddr fld33_1 rfl) (rg_q (q_load sz3 rfl rfl) ?_)
  refine rg_q (q_call en279 (.cons rfl (.cons rfl .nil)) rfl (unfolded_p _ _ hm (by omega) (by omega))) ?_
  refine rg_q (q_a rfl) ?_
  refine rs (awp_seq ?_)
  refine xa 2 ?_
  refine rg_q (q_m rfl) (rg_q (q_gtr rfl rfl) ?_)
  refine xc (awp_cond rfl (fun hc5 => ?_) (fun hc5 => ?_))
  ·
   exfalso; (try simp only [nb, ne_eq] at hc5); omega
  ·
   (try simp only [nb, ne_eq] at hc5)
   refine awp_skip ?_
   change Awp _ _ _ _ _
   refine awp_seq ?_
   refine xa 14 ?_
   refine rg_q (q_fieldAddr fld33_0 rfl) (rg_q (q_load sz3 rfl rfl) (rg_q (q_fieldAddr fld33_1 rfl) (rg_q (q_load sz3 rfl rfl) ?_)))
   refine rg_q (q_neg rfl xi) ?_
   refine rg_q (q_fieldAddr fld24_0 rfl) (rg_q (q_load sz3 rfl rfl) (rg_q (q_fieldAddr fld33_0 rfl) (rg_q (q_load sz3 rfl rfl) (rg_q (q_m rfl) (rg_q (q_fieldAddr fld24_1 rfl) ?_)))))
   refine rg_q (q_load sz3 rfl rfl) ?_
   refine rg_q (q_build (cs := [_, _, _, _, _, _]) pl364 zr364 rfl (.cons rfl (by exact .inl rfl) (.cons rfl (by exact .inl rfl) (.cons rfl (by exact .inl rfl) (.cons rfl (by exact .inl rfl) (.cons rfl (by exact .inl rfl) (.cons rfl (by exact .inl rfl) .nil)))))) ⟨⟨rfl, by decide⟩, ⟨rfl, by decide⟩, ⟨rfl, by decide⟩, ⟨rfl, by decide⟩, ⟨rfl, by decide⟩, ⟨rfl, by decide⟩, trivial⟩ rfl) ?_
   refine rg_q (q_build (cs := [_, _, _, _, _, _]) pl366 zr366 rfl (.cons rfl (by exact .inr ⟨_, rfl⟩) .nil) ⟨⟨rfl, by decide⟩, trivial⟩ rfl) ?_
   refine rg_nil ?_
   refine aops_store sz366 rfl rfl (by exact .inr ⟨_, rfl⟩) rfl rfl (by decide) rfl ?_
   refine aops_q rfl (q_a rfl) ?_
   refine aops_nil ?_
   change Awp _ _ _ _ _
   refine awp_ret ?_
   refine ⟨_, (.cons (.cellA rfl rfl sz366 rfl) xk1), ?_⟩
   rw [hz]; rfl

def opnI (m : Md) (a b : Int × Int) : Crs × Int := if modeE m ≠ 0 then (crs0, modeE m) else wayI m a b
theorem opn_ok {m : Md} {a b : Int × Int} (h : (opnI m a b).2 = 0) : MdOk m ∧ wayE m a b = 0 ∧ opnI m a b = wayI m a b := by
  unfold opnI at h ⊢
  by_cases h1 : modeE m ≠ 0
  · rw [if_pos h1] at h; exact absurd h h1
  · rw [if_neg h1] at h ⊢
    have hm := mode_ok.1 (Decidable.not_not.1 h1)
    refine ⟨hm, ?_, rfl⟩
    unfold wayI at h
    by_cases h2 : wayE m a b ≠ 0
    · rw [if_pos h2] at h; exact absurd h h2
    · exact Decidable.not_not.1 h2
theorem ropen_p (m : Md) (a b : Int × Int) : PC Tryz.prog 301 [.agg (mdC m), .agg (shC a), .agg (shC b)] (.tup [.agg (crsC ((opnI m a b).1)), .v (.int .i64 ((opnI m a b).2))]) := by
 refine pc_of_awp Tryz.func301 rfl Tryz.ntmps301 (rs := [.cell 6 366, .tmp 7]) Tryz.results301 (by simp) fun w0 => ?_
 refine awp_seq ?_
 refine xa 3 ?_
 refine rg_q (q_box rfl (by exact .inr ⟨_, rfl⟩)) ?_
 refine rg_q (q_box rfl (by exact .inr ⟨_, rfl⟩)) ?_
 refine rg_q (q_box rfl (by exact .inr ⟨_, rfl⟩)) ?_
 refine rg_nil ?_
 refine aops_alloc zr366 rfl rfl rfl ?_
 refine aops_q rfl (q_a rfl) ?_
 refine aops_nil (xq (awp_seq ?_))
 refine xa 3 ?_
 refine rg_q (q_loadA (ds := [_, _, _, _]) sz24 rfl rfl rfl) ?_
 refine rg_q (q_call en122 (.cons rfl .nil) rfl (checkMode_p _)) ?_
 refine rg_q (q_a rfl) ?_
 refine rs (xa 2 ?_)
 refine rg_q (q_m rfl) (rg_q (q_neq rfl rfl) ?_)
 refine xc (awp_cond rfl (fun hc2 => ?_) (fun hc2 => ?_))
 ·
  (try simp only [nb, ne_eq] at hc2)
  have hz : opnI m a b = (crs0, modeE m) := by unfold opnI; rw [if_pos hc2]
  refine awp_seq ?_
  refine xa 2 ?_
  refine rg_q (q_build (cs := [_, _, _, _, _, _]) pl366 zr366 rfl .nil trivial rfl) ?_
  refine rg_q (q_m rfl) ?_
  refine rg_nil ?_
  refine aops_store sz366 rfl rfl (by exact .inr ⟨_, rfl⟩) rfl rfl (by decide) rfl ?_
  refine aops_q rfl (q_a rfl) ?_
  refine aops_nil ?_
  change Awp _ _ _ _ _
  refine awp_ret ?_
  refine ⟨_, (.cons (.cellA rfl rfl sz366 rfl) xk1), ?_⟩
  rw [hz]; rfl
 ·
  (try simp only [nb, ne_eq] at hc2)
  have hm : MdOk m := mode_ok.1 (by simpa using hc2)
  have hz : opnI m a b = wayI m a b := by unfold opnI; rw [if_neg (by simpa using hc2)]
  refine awp_skip ?_
  change Awp _ _ _ _ _
  refine awp_seq ?_
  refine xa 6 ?_
  refine rg_q (q_loadA (ds := [_, _, _, _]) sz24 rfl rfl rfl) ?_
  refine rg_q (q_loadA (ds := [_, _]) sz33 rfl rfl rfl) ?_
  refine rg_q (q_loadA (ds := [_, _]) sz33 rfl rfl rfl) ?_
  refine rg_q (q_call en268 (.cons rfl (.cons rfl (.cons rfl .nil))) rfl (way_p _ _ _ hm)) ?_
  refine rg_q (q_extract rfl rfl) (rg_q (q_extract rfl rfl) ?_)
  refine rg_nil ?_
  refine aops_store sz366 rfl rfl (by exact .inr ⟨_, rfl⟩) rfl rfl (by decide) rfl ?_
  refine aops_q rfl (q_a rfl) ?_
  refine aops_nil ?_
  change Awp _ _ _ _ _
  refine awp_ret ?_
  refine ⟨_, (.cons (.cellA rfl rfl sz366 rfl) xk1), ?_⟩
  rw [hz]; rfl

def ltI (m : Md) (a b : Int × Int) : Rg × Int := if (opnI m a b).2 ≠ 0 then ((0, 0), (opnI m a b).2) else (leastI (opnI m a b).1, 0)
theorem lt_in (m : Md) (a b : Int × Int) : TimIn (ltI m a b).1 := by
  unfold ltI
  split
  · exact ⟨by simp, by simp, by simp, by simp⟩
  · rename_i h
    obtain ⟨hm, hw, e⟩ := opn_ok (Decidable.not_not.1 h)
    rw [e]
    exact least_in (way_law hm hw).2
def rtI (m : Md) (a b : Int × Int) : Int := ((ltI m a b).1.1 + (ltI m a b).1.2) / 2
theorem rt_in (m : Md) (a b : Int × Int) : 0 ≤ rtI m a b ∧ rtI m a b ≤ 20000000000 := by
  obtain ⟨h1, h2, h3, h4⟩ := lt_in m a b
  unfold rtI; omega
theorem leastTime_p (m : Md) (a b : Int × Int) : PC Tryz.prog 289 [.agg (mdC m), .agg (shC a), .agg (shC b)] (.tup [.agg [.v (.int .i64 (((ltI m a b).1).1)), .v (.int .i64 (((ltI m a b).1).2))], .v (.int .i64 ((ltI m a b).2))]) := by
 refine pc_of_awp Tryz.func289 rfl Tryz.ntmps289 (rs := [.cell 6 56, .tmp 7]) Tryz.results289 (by simp) fun w0 => ?_
 refine awp_seq ?_
 refine xa 3 ?_
 refine rg_q (q_box rfl (by exact .inr ⟨_, rfl⟩)) ?_
 refine rg_q (q_box rfl (by exact .inr ⟨_, rfl⟩)) ?_
 refine rg_q (q_box rfl (by exact .inr ⟨_, rfl⟩)) ?_
 refine rg_nil ?_
 refine aops_alloc zr56 rfl rfl rfl ?_
 refine aops_q rfl (q_a rfl) ?_
 refine aops_nil (xq (xa 7 ?_))
 refine rg_q (q_loadA (ds := [_, _, _, _]) sz24 rfl rfl rfl) ?_
 refine rg_q (q_loadA (ds := [_, _]) sz33 rfl rfl rfl) ?_
 refine rg_q (q_loadA (ds := [_, _]) sz33 rfl rfl rfl) ?_
 refine rg_q (q_call en301 (.cons rfl (.cons rfl (.cons rfl .nil))) rfl (ropen_p _ _ _)) ?_
 refine rg_q (q_move (x := .d (.tup _)) rfl) (rg_q (q_extract rfl rfl) (rg_q (q_extract rfl rfl) ?_))
 refine rg_nil ?_
 refine aops_alloc zr366 rfl rfl rfl ?_
 refine aops_store sz366 rfl rfl (by exact .inr ⟨_, rfl⟩) rfl rfl (by decide) rfl ?_
 refine aops_q rfl (q_a rfl) ?_
 refine aops_nil (xq (awp_seq ?_))
 refine xa 2 ?_
 refine rg_q (q_m rfl) (rg_q (q_neq rfl rfl) ?_)
 refine xc (awp_cond rfl (fun hc2 => ?_) (fun hc2 => ?_))
 ·
  (try simp only [nb, ne_eq] at hc2)
  have hz : ltI m a b = ((0, 0), (opnI m a b).2) := by unfold ltI; rw [if_pos hc2]
  refine awp_seq ?_
  refine xa 2 ?_
  refine rg_q (q_build (cs := [_, _]) pl56 zr56 rfl .nil trivial rfl) ?_
  refine rg_q (q_m rfl) ?_
  refine rg_nil ?_
  refine aops_store sz56 rfl rfl (by exact .inr ⟨_, rfl⟩) rfl rfl (by decide) rfl ?_
  refine aops_q rfl (q_a rfl) ?_
  refine aops_nil ?_
  change Awp _ _ _ _ _
  refine awp_ret ?_
  refine ⟨_, (.cons (.cellA rfl rfl sz56 rfl) xk1), ?_⟩
  rw [hz]; rfl
 ·
  (try simp only [nb, ne_eq] at hc2)
  have he : (opnI m a b).2 = 0 := by simpa using hc2
  obtain ⟨hm, hw, e⟩ := opn_ok he
  have hcx : CrsOk (opnI m a b).1 := by rw [e]; exact (way_law hm hw).2
  have hz : ltI m a b = (leastI (opnI m a b).1, 0) := by unfold ltI; rw [if_neg (by rw [he]; simp)]
  refine awp_skip ?_
  change Awp _ _ _ _ _
  refine awp_seq ?_
  refine xa 2 ?_
  refine rg_q (q_load_refA (ds := [_, _, _, _, _, _]) sz366 rfl rfl rfl rfl) ?_
  refine rg_q (q_call en270 (.cons rfl .nil) rfl (least_p _ hcx)) ?_
  refine rg_nil ?_
  refine aops_store sz56 rfl rfl (by exact .inr ⟨_, rfl⟩) rfl rfl (by decide) rfl ?_
  refine aops_q rfl (q_a rfl) ?_
  refine aops_nil ?_
  change Awp _ _ _ _ _
  refine awp_ret ?_
  refine ⟨_, (.cons (.cellA rfl rfl sz56 rfl) xk1), ?_⟩
  rw [hz]; rfl
theorem roundedTime_p (m : Md) (a b : Int × Int) : PC Tryz.prog 274 [.agg (mdC m), .agg (shC a), .agg (shC b)] (.tup [.v (.int .i64 (rtI m a b)), .v (.int .i64 ((ltI m a b).2))]) := by
 obtain ⟨h1, h2, h3, h4⟩ := lt_in m a b
 refine pc_of_awp Tryz.func274 rfl Tryz.ntmps274 (rs := [.tmp 6, .tmp 7]) Tryz.results274 (by simp) fun w0 => ?_
 refine awp_seq ?_
 refine xa 5 ?_
 refine rg_q (q_box rfl (by exact .inr ⟨_, rfl⟩)) ?_
 refine rg_q (q_box rfl (by exact .inr ⟨_, rfl⟩)) ?_
 refine rg_q (q_box rfl (by exact .inr ⟨_, rfl⟩)) ?_
 refine rg_q (q_a rfl) (rg_q (q_a rfl) ?_)
 refine rs (xa 7 ?_)
 refine rg_q (q_loadA (ds := [_, _, _, _]) sz24 rfl rfl rfl) ?_
 refine rg_q (q_loadA (ds := [_, _]) sz33 rfl rfl rfl) ?_
 refine rg_q (q_loadA (ds := [_, _]) sz33 rfl rfl rfl) ?_
 refine rg_q (q_call en289 (.cons rfl (.cons rfl (.cons rfl .nil))) rfl (leastTime_p _ _ _)) ?_
 refine rg_q (q_move (x := .d (.tup _)) rfl) (rg_q (q_extract rfl rfl) (rg_q (q_extract rfl rfl) ?_))
 refine rg_nil ?_
 refine aops_alloc zr56 rfl rfl rfl ?_
 refine aops_store sz56 rfl rfl (by exact .inr ⟨_, rfl⟩) rfl rfl (by decide) rfl ?_
 refine aops_q rfl (q_a rfl) ?_
 refine aops_nil (xq (xa 9 ?_))
 refine rg_q (q_fieldAddr_ref fld56_0 rfl) (rg_q (q_load_ref sz3 rfl rfl rfl) (rg_q (q_fieldAddr_ref fld56_1 rfl) (rg_q (q_load_ref sz3 rfl rfl rfl) ?_)))
 refine rg_q (q_add rfl rfl xi) ?_
 refine rg_q (q_call en290 (.cons rfl (.cons rfl .nil)) rfl (down_p _ _ ⟨by omega, by omega⟩ (by omega))) ?_
 refine rg_q (q_m rfl) (rg_q (q_a rfl) (rg_q (q_a rfl) ?_))
 refine xc (awp_ret ?_)
 refine ⟨_, xk2, ?_⟩
 rfl
end Go.Proofs.YtamaocfjknpadaaGreat.Am.M
-- mini
set_option maxRecDepth 100000
namespace Go.Proofs.YtamaocfjknpadaaGreat.Am.M
open Go
theorem twithin_p (n lo hi : Int) : PC Tryz.prog 155 [.v (.int .i64 (n)), .v (.int .i64 (lo)), .v (.int .i64 (hi))] (.v (.bool (inR lo n hi))) := by
 refine pc_of_awp Tryz.func155 rfl Tryz.ntmps155 (rs := [.tmp 6]) Tryz.results155 (by simp) fun w0 => ?_
 refine awp_seq ?_
 refine xa 1 ?_
 refine rg_q (q_a rfl) ?_
 refine rs (xa 9 ?_)
 refine rg_q (q_m rfl) (rg_q (q_m rfl) (rg_q (q_leq rfl rfl) (rg_q (q_m rfl) ?_)))
 refine rg_g rfl rfl (fun hG => (q_m rfl)) ?_
 refine rg_g rfl rfl (fun hG => (q_m rfl)) ?_
 refine rg_g rfl rfl (fun hG => (q_leq rfl rfl)) ?_
 refine rg_pick rfl rfl rfl rfl rfl rfl ?_
 refine rg_q (q_a rfl) ?_
 refine xc (awp_ret ?_)
 refine ⟨_, xk1, ?_⟩
 simp only [bif_and]; rfl
theorem bwithin_p (n lo hi : Int) : PC Tryz.prog 256 [.v (.int .i64 (n)), .v (.int .i64 (lo)), .v (.int .i64 (hi))] (.v (.bool (inR lo n hi))) := by
 refine pc_of_awp Tryz.func256 rfl Tryz.ntmps256 (rs := [.tmp 6]) Tryz.results256 (by simp) fun w0 => ?_
 refine awp_seq ?_
 refine xa 1 ?_
 refine rg_q (q_a rfl) ?_
 refine rs (xa 9 ?_)
 refine rg_q (q_m rfl) (rg_q (q_m rfl) (rg_q (q_leq rfl rfl) (rg_q (q_m rfl) ?_)))
 refine rg_g rfl rfl (fun hG => (q_m rfl)) ?_
 refine rg_g rfl rfl (fun hG => (q_m rfl)) ?_
 refine rg_g rfl rfl (fun hG => (q_leq rfl rfl)) ?_
 refine rg_pick rfl rfl rfl rfl rfl rfl ?_
 refine rg_q (q_a rfl) ?_
 refine xc (awp_ret ?_)
 refine ⟨_, xk1, ?_⟩
 simp only [bif_and]; rfl
theorem bsmall_p (n m : Int) (h1 : 0 ≤ m) (h2 : m ≤ 1000000000000) : PC Tryz.prog 218 [.v (.int .i64 (n)), .v (.int .i64 (m))] (.v (.bool (inR (-m) n m))) := by
 refine pc_of_awp Tryz.func218 rfl Tryz.ntmps218 (rs := [.tmp 4]) Tryz.results218 (by simp) fun w0 => ?_
 refine awp_seq ?_
 refine xa 1 ?_
 refine rg_q (q_a rfl) ?_
 refine rs (xa 6 ?_)
 refine rg_q (q_m rfl) (rg_q (q_m rfl) ?_)
 refine rg_q (q_neg rfl xi) ?_
 refine rg_q (q_m rfl) ?_
 refine rg_q (q_call en256 (.cons rfl (.cons rfl (.cons rfl .nil))) rfl (bwithin_p _ _ _)) ?_
 refine rg_q (q_a rfl) ?_
 refine xc (awp_ret ?_)
 refine ⟨_, xk1, ?_⟩
 rfl
theorem bfirst_p (l : List Int) : PC Tryz.prog 161 [.sl 1 (l.map iC)] (.v (.int .i64 (firstE l))) := by
 refine pc_of_awp Tryz.func161 rfl Tryz.ntmps161 (rs := [.tmp 2]) Tryz.results161 (by simp) fun w0 => ?_
 refine awp_seq ?_
 refine xa 1 ?_
 refine rg_q (q_a rfl) ?_
 refine rs (awp_seq ?_)
 refine xa 3 ?_
 refine rg_q (q_move (x := .d (.sl _ _)) rfl) ?_
 refine rg_q (q_len isl282 rfl (by exact len_map _ _)) ?_
 refine rg_q (q_m rfl) ?_
 refine xc (awp_len (t := 5) rfl (fun hl5 => ?_))
 (try simp only [List.length_map] at hl5)
 refine awp_block ?_
 refine awp_loopH [2, 4, 7, 8, 9, 10, 11, 12, 13, 14] [] (α := Nat) (fun k => [(7, T.i (k : Int))]) (fun k => []) (fun k => k ≤ l.length ∧ firstE l = firstE (l.drop k)) (fun k => l.length - k) 0 ⟨Nat.zero_le _, rfl⟩ ?_ ?_
 · exact xh (ms := []) (by repeat (exact Out.refl _)) ⟨(by rfl), trivial⟩ trivial
 ·
  intro k ⟨hk, hf⟩
  refine awp_seq ?_
  refine xa 1 ?_
  refine rg_q (q_lss rfl rfl) ?_
  refine rs (awp_cond rfl (fun hc2 => ?_) (fun hc2 => ?_))
  ·
   (try simp only [nb, ne_eq] at hc2)
   have hlt : k < l.length := by omega
   have hx := List.getElem?_eq_getElem hlt
   have hd : firstE (l.drop k) = if l[k] = 0 then firstE (l.drop (k + 1)) else l[k] := by rw [List.drop_eq_getElem_cons hlt]; rfl
   generalize l[k] = x at *
   refine awp_skip ?_
   change Awp _ _ _ _ _
   refine awp_seq ?_
   refine awp_block ?_
   refine awp_seq ?_
   refine xa 3 ?_
   refine rg_q (q_indexAddr sl282 rfl rfl (by omega) (map_at (by omega) hx)) ?_
   refine rg_q (q_load sz40 rfl rfl) (rg_q (q_a rfl) ?_)
   refine rs (xa 2 ?_)
   refine rg_q (q_m rfl) (rg_q (q_neq rfl rfl) ?_)
   refine xc (awp_cond rfl (fun hc4 => ?_) (fun hc4 => ?_))
   ·
    (try simp only [nb, ne_eq] at hc4)
    refine awp_seq ?_
    refine xa 2 ?_
    refine rg_q (q_m rfl) (rg_q (q_a rfl) ?_)
    refine xc (awp_ret ?_)
    refine ⟨_, xk1, ?_⟩
    rw [hf, hd, if_neg hc4]; rfl
   ·
    (try simp only [nb, ne_eq] at hc4)
    refine awp_skip ?_
    change Awp _ _ _ _ _
    refine xa 2 ?_
    refine rg_q (q_add rfl rfl xi) ?_
    refine rg_q (q_m rfl) ?_
    refine rn ?_
    refine ⟨k + 1, ⟨by omega, by rw [hf, hd, if_pos hc4]⟩, by omega, ?_⟩
    exact xh (ms := []) (by repeat (first | exact Out.head rfl rfl | (refine Out.put ?_ rfl))) ⟨(by rfl), trivial⟩ trivial
  ·
   (try simp only [nb, ne_eq] at hc2)
   refine awp_exit ?_
   change Awp _ _ _ _ _
   refine awp_seq ?_
   refine xa 1 ?_
   refine rg_q (q_a rfl) ?_
   refine xc (awp_ret ?_)
   refine ⟨_, xk1, ?_⟩
   rw [hf, List.drop_of_length_le (by omega)]; rfl

def whenI (b : Bool) (e : Int) : Int := if b = true then e else 0
theorem when_must (b : Bool) (e : Int) : whenI (!b) e = mustI b e := by cases b <;> rfl
theorem when_zero {b : Bool} {e : Int} (he : e ≠ 0) : whenI b e = 0 ↔ b = false := by unfold whenI; cases b <;> simp_all
theorem when_p (b : Bool) (e : Int) : PC Tryz.prog 163 [.v (.bool (b)), .v (.int .i64 (e))] (.v (.int .i64 (whenI b e))) := by
 refine pc_of_awp Tryz.func163 rfl Tryz.ntmps163 (rs := [.tmp 4]) Tryz.results163 (by simp) fun w0 => ?_
 refine awp_seq ?_
 refine xa 1 ?_
 refine rg_q (q_a rfl) ?_
 refine rs (awp_seq ?_)
 refine xa 1 ?_
 refine rg_q (q_m rfl) ?_
 refine xc (awp_cond rfl (fun hc1 => ?_) (fun hc1 => ?_))
 ·
  (try simp only [nb, ne_eq] at hc1)
  have hz : whenI b e = e := by unfold whenI; rw [if_pos hc1]
  refine awp_seq ?_
  refine xa 2 ?_
  refine rg_q (q_m rfl) (rg_q (q_a rfl) ?_)
  refine xc (awp_ret ?_)
  refine ⟨_, xk1, ?_⟩
  rw [hz]; rfl
 ·
  (try simp only [nb, ne_eq] at hc1)
  have hz : whenI b e = 0 := by unfold whenI; rw [if_neg (by simpa using hc1)]
  refine awp_skip ?_
  change Awp _ _ _ _ _
  refine awp_seq ?_
  refine xa 1 ?_
  refine rg_q (q_a rfl) ?_
  refine xc (awp_ret ?_)
  refine ⟨_, xk1, ?_⟩
  rw [hz]; rfl

theorem not_and_or (a b : Bool) : ((!a) || !b) = !(a && b) := by cases a <;> cases b <;> rfl
theorem bspotErr_p (p : Int × Int) : PC Tryz.prog 162 [.agg (shC p)] (.v (.int .i64 (spotE p))) := by
 refine pc_of_awp Tryz.func162 rfl Tryz.ntmps162 (rs := [.tmp 2]) Tryz.results162 (by simp) fun w0 => ?_
 refine awp_seq ?_
 refine xa 2 ?_
 refine rg_q (q_box rfl (by exact .inr ⟨_, rfl⟩)) ?_
 refine rg_q (q_a rfl) ?_
 refine rs (xa 12 ?_)
 refine rg_q (q_fieldAddr fld33_0 rfl) (rg_q (q_load sz3 rfl rfl) ?_)
 refine rg_q (q_call en218 (.cons rfl (.cons rfl .nil)) rfl (bsmall_p _ _ (by omega) (by omega))) ?_
 refine rg_q (q_not rfl) (rg_q (q_m rfl) ?_)
 refine rg_g rfl rfl (fun hG => (q_fieldAddr fld33_1 rfl)) ?_
 refine rg_g rfl rfl (fun hG => (q_load sz3 rfl rfl)) ?_
 refine rg_g rfl rfl (fun hG => (q_call en218 (.cons rfl (.cons rfl .nil)) rfl (bsmall_p _ _ (by omega) (by omega)))) ?_
 refine rg_g rfl rfl (fun hG => (q_not rfl)) ?_
 refine rg_pick rfl rfl rfl rfl rfl rfl ?_
 refine rg_q (q_call en163 (.cons rfl (.cons rfl .nil)) rfl (when_p _ _)) ?_
 refine rg_q (q_a rfl) ?_
 refine xc (awp_ret ?_)
 refine ⟨_, xk1, ?_⟩
 unfold spotE spotB; rw [← when_must]; simp only [bif_and, bif_or, ← not_and_or]; rfl

def plateE (z t : Int) : Int := mustI (inR 1 z (t - 1)) 22
def sampE (s : Int × Int) : Int := if (inR 0 s.1 1000000000000 && inR 1 s.2 100000000) = true then 0 else 2
theorem plateErr_p (p : Int × Int) (t : Int) (h1 : 2 ≤ t) (h2 : t ≤ 20000) : PC Tryz.prog 261 [.agg (shC p), .v (.int .i64 (t))] (.v (.int .i64 (plateE p.2 t))) := by
 refine pc_of_awp Tryz.func261 rfl Tryz.ntmps261 (rs := [.tmp 4]) Tryz.results261 (by simp) fun w0 => ?_
 refine awp_seq ?_
 refine xa 2 ?_
 refine rg_q (q_box rfl (by exact .inr ⟨_, rfl⟩)) ?_
 refine rg_q (q_a rfl) ?_
 refine rs (xa 8 ?_)
 refine rg_q (q_fieldAddr fld33_1 rfl) (rg_q (q_load sz3 rfl rfl) (rg_q (q_m rfl) ?_))
 refine rg_q (q_sub rfl rfl xi) ?_
 refine rg_q (q_call en256 (.cons rfl (.cons rfl (.cons rfl .nil))) rfl (bwithin_p _ _ _)) ?_
 refine rg_q (q_not rfl) ?_
 refine rg_q (q_call en163 (.cons rfl (.cons rfl .nil)) rfl (when_p _ _)) ?_
 refine rg_q (q_a rfl) ?_
 refine xc (awp_ret ?_)
 refine ⟨_, xk1, ?_⟩
 unfold plateE; rw [← when_must]; rfl
theorem checkSampling_p (s : Int × Int) : PC Tryz.prog 164 [.agg (shC s)] (.v (.int .i64 (sampE s))) := by
 refine pc_of_awp Tryz.func164 rfl Tryz.ntmps164 (rs := [.tmp 2]) Tryz.results164 (by simp) fun w0 => ?_
 refine awp_seq ?_
 refine xa 2 ?_
 refine rg_q (q_box rfl (by exact .inr ⟨_, rfl⟩)) ?_
 refine rg_q (q_a rfl) ?_
 refine rs (awp_seq ?_)
 refine xa 10 ?_
 refine rg_q (q_fieldAddr fld26_0 rfl) (rg_q (q_load sz3 rfl rfl) ?_)
 refine rg_q (q_call en155 (.cons rfl (.cons rfl (.cons rfl .nil))) rfl (twithin_p _ _ _)) ?_
 refine rg_q (q_not rfl) (rg_q (q_m rfl) ?_)
 refine rg_g rfl rfl (fun hG => (q_fieldAddr fld26_1 rfl)) ?_
 refine rg_g rfl rfl (fun hG => (q_load sz3 rfl rfl)) ?_
 refine rg_g rfl rfl (fun hG => (q_call en155 (.cons rfl (.cons rfl (.cons rfl .nil))) rfl (twithin_p _ _ _))) ?_
 refine rg_g rfl rfl (fun hG => (q_not rfl)) ?_
 refine rg_pick rfl rfl rfl rfl rfl rfl ?_
 refine xc (awp_cond rfl (fun hc1 => ?_) (fun hc1 => ?_))
 ·
  (try simp only [nb, ne_eq] at hc1)
  have hz : sampE s = 2 := by unfold sampE; rw [if_neg (by intro h; simp_all)]
  refine awp_seq ?_
  refine xa 1 ?_
  refine rg_q (q_a rfl) ?_
  refine xc (awp_ret ?_)
  refine ⟨_, xk1, ?_⟩
  rw [hz]; rfl
 ·
  (try simp only [nb, ne_eq] at hc1)
  have hz : sampE s = 0 := by unfold sampE; rw [if_pos (by simp_all)]
  refine awp_skip ?_
  change Awp _ _ _ _ _
  refine awp_seq ?_
  refine xa 1 ?_
  refine rg_q (q_a rfl) ?_
  refine xc (awp_ret ?_)
  refine ⟨_, xk1, ?_⟩
  rw [hz]; rfl

def rndI (n b : Int) : Int := (2 * n + b) / (2 * b)
structure Arr where
  el : List (Int × Int)
  ou : Md
  ba : Md
  ts : Int × Int
def arrC (a : Arr) : List D := [.sl 2 (a.el.map shC), .v (.int .i64 a.ou.w), .v (.int .i64 a.ou.m), .v (.int .i64 a.ou.k), .v (.int .i64 a.ou.t), .v (.int .i64 a.ba.w), .v (.int .i64 a.ba.m), .v (.int .i64 a.ba.k), .v (.int .i64 a.ba.t), .v (.int .i64 a.ts.1), .v (.int .i64 a.ts.2)]
def elE (p : Int × Int) : Int := firstE [spotE p, whenI (decide (0 ≤ p.2)) 15]
def ckEls : Nat → List (Int × Int) → Int × Int
  | _, [] => (0, 0)
  | i, p :: ps => if elE p ≠ 0 then (i, elE p) else ckEls (i + 1) ps
def arrE0 (a : Arr) : Int := firstE [modeE a.ou, modeE a.ba, whenI (decide (a.ou.t ≠ a.ba.t)) 23, sampE a.ts]
def ckArr (a : Arr) : Int × Int := if a.el.length = 0 then (0, 10) else if 16 < a.el.length then (0, 8) else if (ckEls 0 a.el).2 ≠ 0 then ckEls 0 a.el else (0, arrE0 a)
theorem ckEls_at {l : List (Int × Int)} {k : Nat} {x : Int × Int} (hx : l[k]? = some x) : ckEls k (l.drop k) = if elE x ≠ 0 then ((k : Int), elE x) else ckEls (k + 1) (l.drop (k + 1)) := by
  obtain ⟨hlt, rfl⟩ := List.getElem?_eq_some_iff.1 hx
  rw [List.drop_eq_getElem_cons hlt]; rfl
theorem ckEls_ok : ∀ {l : List (Int × Int)} {i : Nat}, (ckEls i l).2 = 0 → ∀ p ∈ l, elE p = 0
  | [], _, _, p, hp => by cases hp
  | q :: l, i, h, p, hp => by
    unfold ckEls at h
    by_cases h1 : elE q ≠ 0
    · rw [if_pos h1] at h; exact absurd h h1
    · rw [if_neg h1] at h
      rcases List.mem_cons.1 hp with rfl | hp
      · exact Decidable.not_not.1 h1
      · exact ckEls_ok h p hp
structure ArrOk (a : Arr) : Prop where
  n1 : 1 ≤ a.el.length
  n2 : a.el.length ≤ 16
  el : ∀ p ∈ a.el, (-100000 ≤ p.1 ∧ p.1 ≤ 100000) ∧ -100000 ≤ p.2 ∧ p.2 < 0
  ou : MdOk a.ou
  ba : MdOk a.ba
  th : a.ou.t = a.ba.t
  t1 : 0 ≤ a.ts.1
  t2 : a.ts.1 ≤ 1000000000000
  t3 : 1 ≤ a.ts.2
  t4 : a.ts.2 ≤ 100000000
theorem elE_ok {p : Int × Int} (h : elE p = 0) : (-100000 ≤ p.1 ∧ p.1 ≤ 100000) ∧ -100000 ≤ p.2 ∧ p.2 < 0 := by
  unfold elE at h
  rw [first_zero] at h
  simp only [List.mem_cons, List.not_mem_nil, or_false, forall_eq_or_imp, forall_eq, spot_ok, when_zero (show (15 : Int) ≠ 0 by omega), decide_eq_false_iff_not] at h
  omega
theorem ckArr_ok {a : Arr} (h : (ckArr a).2 = 0) : ArrOk a ∧ ckArr a = (0, 0) := by
  unfold ckArr at h ⊢
  by_cases h1 : a.el.length = 0
  · rw [if_pos h1] at h; simp at h
  by_cases h2 : 16 < a.el.length
  · rw [if_neg h1, if_pos h2] at h; simp at h
  by_cases h3 : (ckEls 0 a.el).2 ≠ 0
  · rw [if_neg h1, if_neg h2, if_pos h3] at h; exact absurd h h3
  rw [if_neg h1, if_neg h2, if_neg h3] at h ⊢
  simp only at h
  have h4 := h
  unfold arrE0 at h4
  rw [first_zero] at h4
  simp only [List.mem_cons, List.not_mem_nil, or_false, forall_eq_or_imp, forall_eq, mode_ok, when_zero (show (23 : Int) ≠ 0 by omega), decide_eq_false_iff_not, Decidable.not_not] at h4
  obtain ⟨k1, k2, k3, k4⟩ := h4
  have k5 : inR 0 a.ts.1 1000000000000 && inR 1 a.ts.2 100000000 := by
    unfold sampE at k4
    split at k4
    · assumption
    · cases k4
  simp [inR] at k5
  refine ⟨⟨by omega, by omega, fun p hp => elE_ok (ckEls_ok (Decidable.not_not.1 h3) p hp), k1, k2, k3, k5.1.1, k5.1.2, k5.2.1, k5.2.2⟩, by rw [h]⟩
theorem checkArray_p (a : Arr) : PC Tryz.prog 85 [.agg (arrC a)] (.tup [.v (.int .i64 ((ckArr a).1)), .v (.int .i64 ((ckArr a).2))]) := by
 refine pc_of_awp Tryz.func85 rfl Tryz.ntmps85 (rs := [.tmp 2, .tmp 3]) Tryz.results85 (by simp) fun w0 => ?_
 refine awp_seq ?_
 refine xa 3 ?_
 refine rg_q (q_box rfl (by exact .inr ⟨_, rfl⟩)) ?_
 refine rg_q (q_a rfl) (rg_q (q_a rfl) ?_)
 refine rs (awp_block ?_)
 refine awp_seq ?_
 refine xa 5 ?_
 refine rg_q (q_fieldAddr fld28_0 rfl) (rg_q (q_load sz22 rfl rfl) ?_)
 refine rg_q (q_len isl22 rfl (by exact len_map _ _)) ?_
 refine rg_q (q_eql rfl rfl) (rg_q (q_a rfl) ?_)
 refine xc (awp_len (t := 9) rfl (fun hl9 => ?_))
 (try simp only [List.length_map] at hl9)
 refine awp_cond rfl (fun hc1 => ?_) (fun hc1 => ?_)
 ·
  (try simp only [nb, ne_eq] at hc1)
  have hz : ckArr a = (0, 10) := by unfold ckArr; rw [if_pos (by omega)]
  refine awp_seq ?_
  refine xa 2 ?_
  refine rg_q (q_a rfl) (rg_q (q_a rfl) ?_)
  refine xc (awp_ret ?_)
  refine ⟨_, xk2, ?_⟩
  rw [hz]; rfl
 ·
  (try simp only [nb, ne_eq] at hc1)
  refine awp_seq ?_
  refine xa 5 ?_
  refine rg_q (q_fieldAddr fld28_0 rfl) (rg_q (q_load sz22 rfl rfl) ?_)
  refine rg_q (q_len isl22 rfl (by exact len_map _ _)) ?_
  refine rg_q (q_gtr rfl rfl) (rg_q (q_a rfl) ?_)
  refine xc (awp_len (t := 14) rfl (fun hl14 => ?_))
  (try simp only [List.length_map] at hl14)
  refine awp_cond rfl (fun hc3 => ?_) (fun hc3 => ?_)
  ·
   (try simp only [nb, ne_eq] at hc3)
   have hz : ckArr a = (0, 8) := by unfold ckArr; rw [if_neg (by omega), if_pos (by omega)]
   refine awp_seq ?_
   refine xa 2 ?_
   refine rg_q (q_a rfl) (rg_q (q_a rfl) ?_)
   refine xc (awp_ret ?_)
   refine ⟨_, xk2, ?_⟩
   rw [hz]; rfl
  ·
   (try simp only [nb, ne_eq] at hc3)
   have hz : ckArr a = if (ckEls 0 a.el).2 ≠ 0 then ckEls 0 a.el else (0, arrE0 a) := by unfold ckArr; rw [if_neg (by omega), if_neg (by omega)]
   refine awp_skip ?_
   change Awp _ _ _ _ _
   refine awp_seq ?_
   refine awp_seq ?_
   refine xa 4 ?_
   refine rg_q (q_fieldAddr fld28_0 rfl) (rg_q (q_load sz22 rfl rfl) ?_)
   refine rg_q (q_len isl22 rfl (by exact len_map _ _)) ?_
   refine rg_q (q_m rfl) ?_
   refine xc (awp_len (t := 18) rfl (fun hl18 => ?_))
   (try simp only [List.length_map] at hl18)
   refine awp_block ?_
   refine awp_loopH [2, 3, 4, 5, 6, 20, 21, 22, 23, 24, 25, 26, 27, 28, 29, 30, 31, 32, 33, 34, 35, 36, 37] [] (α := Nat) (fun k => [(20, T.i (k : Int))]) (fun k => []) (fun k => k ≤ a.el.length ∧ ckEls 0 a.el = ckEls k (a.el.drop k)) (fun k => a.el.length - k) 0 ⟨Nat.zero_le _, rfl⟩ ?_ ?_
   · exact xh (ms := []) (by repeat (exact Out.refl _)) ⟨(by rfl), trivial⟩ trivial
   ·
    intro k ⟨hk, hf⟩
    refine awp_seq ?_
    refine xa 1 ?_
    refine rg_q (q_lss rfl rfl) ?_
    refine rs (awp_cond rfl (fun hc6 => ?_) (fun hc6 => ?_))
    ·
     (try simp only [nb, ne_eq] at hc6)
     have hlt : k < a.el.length := by omega
     obtain ⟨x, hx⟩ : ∃ x, a.el[k]? = some x := ⟨_, List.getElem?_eq_getElem hlt⟩
     have hd := ckEls_at hx
     refine awp_skip ?_
     change Awp _ _ _ _ _
     refine awp_seq ?_
     refine awp_block ?_
     refine awp_seq ?_
     refine xa 3 ?_
     refine rg_q (q_m rfl) ?_
     refine rg_q (q_indexAddr sl22 rfl rfl (by omega) (map_at (by omega) hx)) ?_
     refine rg_q (q_loadA (ds := [_, _]) sz33 rfl rfl rfl) ?_
     refine rg_nil ?_
     refine aops_alloc zr33 rfl rfl rfl ?_
     refine aops_q rfl (q_a rfl) ?_
     refine aops_store sz33 rfl rfl (by exact .inr ⟨_, rfl⟩) rfl rfl (by decide) rfl ?_
     refine aops_nil (xq (xa 9 ?_))
     refine rg_q (q_load_refA (ds := [_, _]) sz33 rfl rfl rfl rfl) ?_
     refine rg_q (q_call en162 (.cons rfl .nil) rfl (bspotErr_p _)) ?_
     refine rg_q (q_fieldAddr_ref fld33_1 rfl) (rg_q (q_load_ref sz3 rfl rfl rfl) (rg_q (q_geq rfl rfl) ?_))
     refine rg_q (q_call en163 (.cons rfl (.cons rfl .nil)) rfl (when_p _ _)) ?_
     refine rg_q (q_buildSlice sl282 zr40 rfl rfl (by decide) (.cons rfl (by exact .inl rfl) (.cons rfl (by exact .inl rfl) .nil)) ⟨rfl, rfl, rfl, rfl, trivial⟩ rfl (by decide) rfl) ?_
     refine rg_q (q_call en161 (.cons rfl .nil) rfl (bfirst_p [_, _])) ?_
     refine rg_q (q_a rfl) ?_
     refine rs (xa 2 ?_)
     refine rg_q (q_m rfl) (rg_q (q_neq rfl rfl) ?_)
     refine xc (awp_cond rfl (fun hc9 => ?_) (fun hc9 => ?_))
     ·
      (try simp only [nb, ne_eq] at hc9)
      have hb : elE x ≠ 0 := hc9
      have hz2 : ckEls 0 a.el = ((k : Int), elE x) := by rw [hf, hd, if_pos hb]
      refine awp_seq ?_
      refine xa 4 ?_
      refine rg_q (q_m rfl) (rg_q (q_m rfl) (rg_q (q_a rfl) (rg_q (q_a rfl) ?_)))
      refine xc (awp_ret ?_)
      refine ⟨_, xk2, ?_⟩
      rw [hz, hz2, if_pos hb]; rfl
     ·
      (try simp only [nb, ne_eq] at hc9)
      have hb : elE x = 0 := hc9
      refine awp_skip ?_
      change Awp _ _ _ _ _
      refine xa 2 ?_
      refine rg_q (q_add rfl rfl xi) ?_
      refine rg_q (q_m rfl) ?_
      refine rn ?_
      refine ⟨k + 1, ⟨by omega, by rw [hf, hd, if_neg (by rw [hb]; simp)]⟩, by omega, ?_⟩
      exact xh (ms := []) (by repeat (first | exact Out.head rfl rfl | (refine Out.put ?_ rfl) | (refine Out.site ?_ rfl))) ⟨(by rfl), trivial⟩ trivial
    ·
     (try simp only [nb, ne_eq] at hc6)
     have hk0 : ckEls 0 a.el = (0, 0) := by rw [hf, List.drop_of_length_le (by omega)]; rfl
     refine awp_exit ?_
     change Awp _ _ _ _ _
     refine awp_seq ?_
     refine xa 21 ?_
     refine rg_q (q_fieldAddr fld28_1 rfl) ?_
     refine rg_q (q_loadA (ds := [_, _, _, _]) sz24 rfl rfl rfl) ?_
     refine rg_q (q_call en122 (.cons rfl .nil) rfl (checkMode_p a.ou)) ?_
     refine rg_q (q_fieldAddr fld28_2 rfl) ?_
     refine rg_q (q_loadA (ds := [_, _, _, _]) sz24 rfl rfl rfl) ?_
     refine rg_q (q_call en122 (.cons rfl .nil) rfl (checkMode_p a.ba)) ?_
     refine rg_q (q_fieldAddr fld28_1 rfl) (rg_q (q_fieldAddr fld24_3 rfl) (rg_q (q_load sz3 rfl rfl) (rg_q (q_fieldAddr fld28_2 rfl) (rg_q (q_fieldAddr fld24_3 rfl) (rg_q (q_load sz3 rfl rfl) ?_)))))
     refine rg_q (q_neq rfl rfl) ?_
     refine rg_q (q_call en163 (.cons rfl (.cons rfl .nil)) rfl (when_p _ _)) ?_
     refine rg_q (q_fieldAddr fld28_3 rfl) ?_
     refine rg_q (q_loadA (ds := [_, _]) sz26 rfl rfl rfl) ?_
     refine rg_q (q_call en164 (.cons rfl .nil) rfl (checkSampling_p a.ts)) ?_
     refine rg_q (q_buildSlice sl282 zr40 rfl rfl (by decide) (.cons rfl (by exact .inl rfl) (.cons rfl (by exact .inl rfl) (.cons rfl (by exact .inl rfl) (.cons rfl (by exact .inl rfl) .nil)))) ⟨rfl, rfl, rfl, rfl, rfl, rfl, rfl, rfl, trivial⟩ rfl (by decide) rfl) ?_
     refine rg_q (q_call en161 (.cons rfl .nil) rfl (bfirst_p [_, _, _, _])) ?_
     refine rg_q (q_a rfl) (rg_q (q_a rfl) ?_)
     refine xc (awp_ret ?_)
     refine ⟨_, xk2, ?_⟩
     rw [hz, hk0, if_neg (by simp)]; rfl

def pairE (n : Nat) (p : Int × Int) : Int := whenI (!inR 0 p.1 ((n : Int) - 1) || !inR 0 p.2 ((n : Int) - 1)) 6
theorem pair_ok {n : Nat} {p : Int × Int} (h : pairE n p = 0) : (0 ≤ p.1 ∧ p.1 < n) ∧ 0 ≤ p.2 ∧ p.2 < n := by
  unfold pairE at h
  rw [when_zero (by omega)] at h
  simp [inR] at h
  omega
theorem pairErr_p (a : Arr) (p : Int × Int) (hl : a.el.length ≤ 1000) : PC Tryz.prog 228 [.agg (arrC a), .agg (shC p)] (.v (.int .i64 (pairE a.el.length p))) := by
 refine pc_of_awp Tryz.func228 rfl Tryz.ntmps228 (rs := [.tmp 4]) Tryz.results228 (by simp) fun w0 => ?_
 refine awp_seq ?_
 refine xa 3 ?_
 refine rg_q (q_box rfl (by exact .inr ⟨_, rfl⟩)) ?_
 refine rg_q (q_box rfl (by exact .inr ⟨_, rfl⟩)) ?_
 refine rg_q (q_a rfl) ?_
 refine rs (xa 6 ?_)
 refine rg_q (q_fieldAddr fld242_0 rfl) (rg_q (q_fieldAddr fld28_0 rfl) (rg_q (q_load sz22 rfl rfl) ?_))
 refine rg_q (q_len isl22 rfl (by exact len_map _ _)) ?_
 refine rg_q (q_sub rfl rfl xi) ?_
 refine rg_q (q_a rfl) ?_
 refine xc (awp_len (t := 8) rfl (fun hl8 => ?_))
 (try simp only [List.length_map] at hl8)
 refine awp_seq ?_
 refine xa 14 ?_
 refine rg_q (q_indexAddr_ar ar63 rfl rfl (by omega) (by omega)) ?_
 refine rg_q (q_load sz3 rfl rfl) (rg_q (q_m rfl) ?_)
 refine rg_q (q_call en256 (.cons rfl (.cons rfl (.cons rfl .nil))) rfl (bwithin_p _ _ _)) ?_
 refine rg_q (q_not rfl) (rg_q (q_m rfl) ?_)
 refine rg_g rfl rfl (fun hG => (q_indexAddr_ar ar63 rfl rfl (by (have hg0 := T.bool_inj (a := _) hG.1; (try simp only [nb, ne_eq] at hg0); omega)) (by (have hg0 := T.bool_inj (a := _) hG.1; (try simp only [nb, ne_eq] at hg0); omega)))) ?_
 refine rg_g rfl rfl (fun hG => (q_load sz3 rfl rfl)) ?_
 refine rg_g rfl rfl (fun hG => (q_m rfl)) ?_
 refine rg_g rfl rfl (fun hG => (q_call en256 (.cons rfl (.cons rfl (.cons rfl .nil))) rfl (bwithin_p _ _ _))) ?_
 refine rg_g rfl rfl (fun hG => (q_not rfl)) ?_
 refine rg_pick rfl rfl rfl rfl rfl rfl ?_
 refine rg_q (q_call en163 (.cons rfl (.cons rfl .nil)) rfl (when_p _ _)) ?_
 refine rg_q (q_a rfl) ?_
 refine xc (awp_ret ?_)
 refine ⟨_, xk1, ?_⟩
 unfold pairE; simp only [bif_or]; rfl

def elAt (a : Arr) (i : Int) : Int × Int := a.el.getD i.toNat (0, 0)
def echI (a : Arr) (at_ p : Int × Int) : Int := rtI a.ou (elAt a p.1) at_ + rtI a.ba (elAt a p.2) at_
theorem el_at {a : Arr} {i : Int} (h1 : 0 ≤ i) (h2 : i < a.el.length) : a.el[i.toNat]? = some (elAt a i) := by
  unfold elAt
  rw [List.getD_eq_getElem?_getD, List.getElem?_eq_getElem (by omega)]; rfl
theorem ech_in (a : Arr) (at_ p : Int × Int) : 0 ≤ echI a at_ p ∧ echI a at_ p ≤ 40000000000 := by
  have h1 := rt_in a.ou (elAt a p.1) at_
  have h2 := rt_in a.ba (elAt a p.2) at_
  unfold echI; omega
theorem echo_p (a : Arr) (t p : Int × Int) (hp : (0 ≤ p.1 ∧ p.1 < a.el.length) ∧ 0 ≤ p.2 ∧ p.2 < a.el.length) : PC Tryz.prog 243 [.agg (arrC a), .agg (shC t), .agg (shC p)] (.v (.int .i64 (echI a t p))) := by
 obtain ⟨⟨p1, p2⟩, p3, p4⟩ := hp
 have hx := el_at p1 p2
 have hy := el_at p3 p4
 have r1 := rt_in a.ou (elAt a p.1) t
 have r2 := rt_in a.ba (elAt a p.2) t
 have e1 : ((p.1.toNat : Nat) : Int) = p.1 := by omega
 have e2 : ((p.2.toNat : Nat) : Int) = p.2 := by omega
 refine pc_of_awp Tryz.func243 rfl Tryz.ntmps243 (rs := [.tmp 6]) Tryz.results243 (by simp) fun w0 => ?_
 refine awp_seq ?_
 refine xa 4 ?_
 refine rg_q (q_box rfl (by exact .inr ⟨_, rfl⟩)) ?_
 refine rg_q (q_box rfl (by exact .inr ⟨_, rfl⟩)) ?_
 refine rg_q (q_box rfl (by exact .inr ⟨_, rfl⟩)) ?_
 refine rg_q (q_a rfl) ?_
 refine rs (xa 17 ?_)
 refine rg_q (q_fieldAddr fld242_0 rfl) (rg_q (q_fieldAddr fld28_1 rfl) ?_)
 refine rg_q (q_loadA (ds := [_, _, _, _]) sz24 rfl rfl rfl) ?_
 refine rg_q (q_fieldAddr fld242_0 rfl) (rg_q (q_fieldAddr fld28_0 rfl) (rg_q (q_load sz22 rfl rfl) ?_))
 refine rg_q (q_indexAddr_ar ar63 rfl rfl (by omega) (by omega)) ?_
 refine rg_q (q_load sz3 rfl rfl) ?_
 refine rg_q (q_indexAddr sl22 rfl rfl (by omega) (map_at (k := p.1.toNat) (by omega) hx)) ?_
 refine rg_q (q_loadA (ds := [_, _]) sz33 rfl rfl rfl) ?_
 refine rg_q (q_loadA (ds := [_, _]) sz33 rfl rfl rfl) ?_
 refine rg_q (q_call en274 (.cons rfl (.cons rfl (.cons rfl .nil))) rfl (roundedTime_p a.ou (elAt a p.1) t)) ?_
 refine rg_q (q_move (x := .d (.tup _)) rfl) (rg_q (q_extract rfl rfl) (rg_q (q_extract rfl rfl) (rg_q (q_a rfl) (rg_q (q_a rfl) ?_))))
 refine rs (xa 17 ?_)
 refine rg_q (q_fieldAddr fld242_0 rfl) (rg_q (q_fieldAddr fld28_2 rfl) ?_)
 refine rg_q (q_loadA (ds := [_, _, _, _]) sz24 rfl rfl rfl) ?_
 refine rg_q (q_fieldAddr fld242_0 rfl) (rg_q (q_fieldAddr fld28_0 rfl) (rg_q (q_load sz22 rfl rfl) ?_))
 refine rg_q (q_indexAddr_ar ar63 rfl rfl (by omega) (by omega)) ?_
 refine rg_q (q_load sz3 rfl rfl) ?_
 refine rg_q (q_indexAddr sl22 rfl rfl (by omega) (map_at (k := p.2.toNat) (by omega) hy)) ?_
 refine rg_q (q_loadA (ds := [_, _]) sz33 rfl rfl rfl) ?_
 refine rg_q (q_loadA (ds := [_, _]) sz33 rfl rfl rfl) ?_
 refine rg_q (q_call en274 (.cons rfl (.cons rfl (.cons rfl .nil))) rfl (roundedTime_p a.ba (elAt a p.2) t)) ?_
 refine rg_q (q_move (x := .d (.tup _)) rfl) (rg_q (q_extract rfl rfl) (rg_q (q_extract rfl rfl) (rg_q (q_a rfl) (rg_q (q_a rfl) ?_))))
 refine rs (xa 4 ?_)
 refine rg_q (q_m rfl) (rg_q (q_m rfl) ?_)
 refine rg_q (q_add rfl rfl xi) ?_
 refine rg_q (q_a rfl) ?_
 refine xc (awp_ret ?_)
 refine ⟨_, xk1, ?_⟩
 rfl

def smpI (a : Arr) (t p : Int × Int) : Int := rndI (echI a t p - a.ts.1) a.ts.2
def opE (a : Arr) (t p : Int × Int) : Int := if (ckArr a).2 ≠ 0 then (ckArr a).2 else firstE [spotE t, plateE t.2 a.ou.t, pairE a.el.length p]
theorem op_ok {a : Arr} {t p : Int × Int} (h : opE a t p = 0) : ArrOk a ∧ ((0 ≤ p.1 ∧ p.1 < a.el.length) ∧ 0 ≤ p.2 ∧ p.2 < a.el.length) ∧ spotE t = 0 ∧ plateE t.2 a.ou.t = 0 := by
  unfold opE at h
  by_cases h1 : (ckArr a).2 ≠ 0
  · rw [if_pos h1] at h; exact absurd h h1
  rw [if_neg h1, first_zero] at h
  simp only [List.mem_cons, List.not_mem_nil, or_false, forall_eq_or_imp, forall_eq] at h
  exact ⟨(ckArr_ok (Decidable.not_not.1 h1)).1, pair_ok h.2.2, h.1, h.2.1⟩
theorem bopen_p (a : Arr) (t p : Int × Int) : PC Tryz.prog 229 [.agg (arrC a), .agg (shC t), .agg (shC p)] (.tup [.agg (arrC a), .v (.int .i64 (opE a t p))]) := by
 refine pc_of_awp Tryz.func229 rfl Tryz.ntmps229 (rs := [.cell 6 242, .tmp 7]) Tryz.results229 (by simp) fun w0 => ?_
 refine awp_seq ?_
 refine xa 3 ?_
 refine rg_q (q_box rfl (by exact .inr ⟨_, rfl⟩)) ?_
 refine rg_q (q_box rfl (by exact .inr ⟨_, rfl⟩)) ?_
 refine rg_q (q_box rfl (by exact .inr ⟨_, rfl⟩)) ?_
 refine rg_nil ?_
 refine aops_alloc zr242 rfl rfl rfl ?_
 refine aops_q rfl (q_a rfl) ?_
 refine aops_nil (xq (xa 2 ?_))
 refine rg_q (q_loadA (ds := [_, _, _, _, _, _, _, _, _, _, _]) sz28 rfl rfl rfl) ?_
 refine rg_q (q_build (cs := [_, _, _, _, _, _, _, _, _, _, _]) pl242 zr242 rfl (.cons rfl (by exact .inr ⟨_, rfl⟩) .nil) ⟨⟨rfl, by decide⟩, trivial⟩ rfl) ?_
 refine rg_nil ?_
 refine aops_alloc zr242 rfl rfl rfl ?_
 refine aops_store sz242 rfl rfl (by exact .inr ⟨_, rfl⟩) rfl rfl (by decide) rfl ?_
 refine aops_nil (xq (awp_seq ?_))
 refine xa 7 ?_
 refine rg_q (q_loadA (ds := [_, _, _, _, _, _, _, _, _, _, _]) sz28 rfl rfl rfl) ?_
 refine rg_q (q_call en85 (.cons rfl .nil) rfl (checkArray_p _)) ?_
 refine rg_q (q_move (x := .d (.tup _)) rfl) (rg_q (q_extract rfl rfl) (rg_q (q_extract rfl rfl) (rg_q (q_a rfl) (rg_q (q_a rfl) ?_))))
 refine rs (xa 2 ?_)
 refine rg_q (q_m rfl) (rg_q (q_neq rfl rfl) ?_)
 refine xc (awp_cond rfl (fun hc3 => ?_) (fun hc3 => ?_))
 ·
  (try simp only [nb, ne_eq] at hc3)
  have hz : opE a t p = (ckArr a).2 := by unfold opE; rw [if_pos hc3]
  refine awp_seq ?_
  refine xa 2 ?_
  refine rg_q (q_load_refA (ds := [_, _, _, _, _, _, _, _, _, _, _]) sz242 rfl rfl rfl rfl) ?_
  refine rg_q (q_m rfl) ?_
  refine rg_nil ?_
  refine aops_store sz242 rfl rfl (by exact .inr ⟨_, rfl⟩) rfl rfl (by decide) rfl ?_
  refine aops_q rfl (q_a rfl) ?_
  refine aops_nil ?_
  change Awp _ _ _ _ _
  refine awp_ret ?_
  refine ⟨_, (.cons (.cellA rfl rfl sz242 rfl) xk1), ?_⟩
  rw [hz]; rfl
 ·
  (try simp only [nb, ne_eq] at hc3)
  have hck : (ckArr a).2 = 0 := by simpa using hc3
  have hok := (ckArr_ok hck).1
  have ht1 := hok.ou.t1
  have ht2 := hok.ou.t2
  have hl16 : a.el.length ≤ 1000 := by have := hok.n2; omega
  have hz : opE a t p = firstE [spotE t, plateE t.2 a.ou.t, pairE a.el.length p] := by unfold opE; rw [if_neg (by rw [hck]; simp)]
  refine awp_skip ?_
  change Awp _ _ _ _ _
  refine awp_seq ?_
  refine xa 13 ?_
  refine rg_q (q_load_refA (ds := [_, _, _, _, _, _, _, _, _, _, _]) sz242 rfl rfl rfl rfl) ?_
  refine rg_q (q_loadA (ds := [_, _]) sz33 rfl rfl rfl) ?_
  refine rg_q (q_call en162 (.cons rfl .nil) rfl (bspotErr_p _)) ?_
  refine rg_q (q_loadA (ds := [_, _]) sz33 rfl rfl rfl) ?_
  refine rg_q (q_fieldAddr fld28_1 rfl) (rg_q (q_fieldAddr fld24_3 rfl) (rg_q (q_load sz3 rfl rfl) ?_))
  refine rg_q (q_call en261 (.cons rfl (.cons rfl .nil)) rfl (plateErr_p t a.ou.t ht1 ht2)) ?_
  refine rg_q (q_load_refA (ds := [_, _, _, _, _, _, _, _, _, _, _]) sz242 rfl rfl rfl rfl) ?_
  refine rg_q (q_loadA (ds := [_, _]) sz63 rfl rfl rfl) ?_
  refine rg_q (q_call en228 (.cons rfl (.cons rfl .nil)) rfl (pairErr_p _ _ hl16)) ?_
  refine rg_q (q_buildSlice sl282 zr40 rfl rfl (by decide) (.cons rfl (by exact .inl rfl) (.cons rfl (by exact .inl rfl) (.cons rfl (by exact .inl rfl) .nil))) ⟨rfl, rfl, rfl, rfl, rfl, rfl, trivial⟩ rfl (by decide) rfl) ?_
  refine rg_q (q_call en161 (.cons rfl .nil) rfl (bfirst_p [_, _, _])) ?_
  refine rg_nil ?_
  refine aops_store sz242 rfl rfl (by exact .inr ⟨_, rfl⟩) rfl rfl (by decide) rfl ?_
  refine aops_q rfl (q_a rfl) ?_
  refine aops_nil ?_
  change Awp _ _ _ _ _
  refine awp_ret ?_
  refine ⟨_, (.cons (.cellA rfl rfl sz242 rfl) xk1), ?_⟩
  rw [hz]; rfl

def echR (a : Arr) (t p : Int × Int) : Int × Int := if opE a t p ≠ 0 then (0, opE a t p) else (echI a t p, 0)
theorem echoAt_p (a : Arr) (t p : Int × Int) : PC Tryz.prog 178 [.agg (arrC a), .agg (shC t), .agg (shC p)] (.tup [.v (.int .i64 ((echR a t p).1)), .v (.int .i64 ((echR a t p).2))]) := by
 refine pc_of_awp Tryz.func178 rfl Tryz.ntmps178 (rs := [.tmp 6, .tmp 7]) Tryz.results178 (by simp) fun w0 => ?_
 refine awp_seq ?_
 refine xa 5 ?_
 refine rg_q (q_box rfl (by exact .inr ⟨_, rfl⟩)) ?_
 refine rg_q (q_box rfl (by exact .inr ⟨_, rfl⟩)) ?_
 refine rg_q (q_box rfl (by exact .inr ⟨_, rfl⟩)) ?_
 refine rg_q (q_a rfl) (rg_q (q_a rfl) ?_)
 refine rs (xa 7 ?_)
 refine rg_q (q_loadA (ds := [_, _, _, _, _, _, _, _, _, _, _]) sz28 rfl rfl rfl) ?_
 refine rg_q (q_loadA (ds := [_, _]) sz33 rfl rfl rfl) ?_
 refine rg_q (q_loadA (ds := [_, _]) sz63 rfl rfl rfl) ?_
 refine rg_q (q_call en229 (.cons rfl (.cons rfl (.cons rfl .nil))) rfl (bopen_p _ _ _)) ?_
 refine rg_q (q_move (x := .d (.tup _)) rfl) (rg_q (q_extract rfl rfl) (rg_q (q_extract rfl rfl) ?_))
 refine rg_nil ?_
 refine aops_alloc zr242 rfl rfl rfl ?_
 refine aops_store sz242 rfl rfl (by exact .inr ⟨_, rfl⟩) rfl rfl (by decide) rfl ?_
 refine aops_q rfl (q_a rfl) ?_
 refine aops_nil (xq (awp_seq ?_))
 refine xa 2 ?_
 refine rg_q (q_m rfl) (rg_q (q_neq rfl rfl) ?_)
 refine xc (awp_cond rfl (fun hc2 => ?_) (fun hc2 => ?_))
 ·
  (try simp only [nb, ne_eq] at hc2)
  have hz : echR a t p = (0, opE a t p) := by unfold echR; rw [if_pos hc2]
  refine awp_seq ?_
  refine xa 3 ?_
  refine rg_q (q_m rfl) (rg_q (q_a rfl) (rg_q (q_a rfl) ?_))
  refine xc (awp_ret ?_)
  refine ⟨_, xk2, ?_⟩
  rw [hz]; rfl
 ·
  (try simp only [nb, ne_eq] at hc2)
  have ho : opE a t p = 0 := by simpa using hc2
  obtain ⟨hok, hpk, _⟩ := op_ok ho
  have hz : echR a t p = (echI a t p, 0) := by unfold echR; rw [if_neg (by rw [ho]; simp)]
  refine awp_skip ?_
  change Awp _ _ _ _ _
  refine awp_seq ?_
  refine xa 6 ?_
  refine rg_q (q_load_refA (ds := [_, _, _, _, _, _, _, _, _, _, _]) sz242 rfl rfl rfl rfl) ?_
  refine rg_q (q_loadA (ds := [_, _]) sz33 rfl rfl rfl) ?_
  refine rg_q (q_loadA (ds := [_, _]) sz63 rfl rfl rfl) ?_
  refine rg_q (q_call en243 (.cons rfl (.cons rfl (.cons rfl .nil))) rfl (echo_p _ _ _ hpk)) ?_
  refine rg_q (q_a rfl) (rg_q (q_a rfl) ?_)
  refine xc (awp_ret ?_)
  refine ⟨_, xk2, ?_⟩
  rw [hz]; rfl
end Go.Proofs.YtamaocfjknpadaaGreat.Am.M
-- mini
set_option maxRecDepth 100000
namespace Go.Proofs.YtamaocfjknpadaaGreat.Am.M
open Go

structure Flw where
  kd : Int
  at_ : Int × Int
  to_ : Int × Int
  pc : Int
  am : Int
  tp : Int
def flwC (x : Flw) : List D := [.v (.int .i64 x.kd), .v (.int .i64 x.at_.1), .v (.int .i64 x.at_.2), .v (.int .i64 x.to_.1), .v (.int .i64 x.to_.2), .v (.int .i64 x.pc), .v (.int .i64 x.am), .v (.int .i64 x.tp)]
theorem indexInt_p (f : Int → Bool) (g : FuncId) (cap : List D) (hen : enB Tryz.prog g = true) (l : List Int) (hf : ∀ a ∈ l, PC Tryz.prog g (.v (.int .i64 a) :: cap) (.v (.bool (f a)))) : PC Tryz.prog 247 [.sl 1 (l.map iC), .fn (.func g) cap] (.v (.int .i64 (idxOf f 0 l))) := by
 refine pc_of_awp Tryz.func247 rfl Tryz.ntmps247 (rs := [.tmp 4]) Tryz.results247 (by simp) fun w0 => ?_
 refine awp_seq ?_
 refine xa 1 ?_
 refine rg_q (q_a rfl) ?_
 refine rs (awp_seq ?_)
 refine xa 3 ?_
 refine rg_q (q_move (x := .d (.sl _ _)) rfl) ?_
 refine rg_q (q_len isl77 rfl (by exact len_map _ _)) ?_
 refine rg_q (q_m rfl) ?_
 refine xc (awp_len (t := 6) rfl (fun hl6 => ?_))
 (try simp only [List.length_map] at hl6)
 refine awp_block ?_
 refine awp_loopH [4, 5, 8, 9, 10, 11, 12, 13, 14, 15, 16, 17, 18] [] (α := Nat) (fun k => [(8, T.i (k : Int))]) (fun k => []) (fun k => k ≤ l.length ∧ idxOf f 0 l = idxOf f k (l.drop k)) (fun k => l.length - k) 0 ⟨Nat.zero_le _, rfl⟩ ?_ ?_
 · exact xh (ms := []) (by repeat (exact Out.refl _)) ⟨(by rfl), trivial⟩ trivial
 ·
  intro k ⟨hk, hh⟩
  refine awp_seq ?_
  refine xa 1 ?_
  refine rg_q (q_lss rfl rfl) ?_
  refine rs (awp_cond rfl (fun hc2 => ?_) (fun hc2 => ?_))
  ·
   (try simp only [nb, ne_eq] at hc2)
   have hlt : k < l.length := by omega
   have hx := List.getElem?_eq_getElem hlt
   have hd : idxOf f k (l.drop k) = if f l[k] = true then (k : Int) else idxOf f (k + 1) (l.drop (k + 1)) := by rw [List.drop_eq_getElem_cons hlt]; rfl
   have hfx := hf l[k] (List.getElem_mem hlt)
   generalize l[k] = x at *
   refine awp_skip ?_
   change Awp _ _ _ _ _
   refine awp_seq ?_
   refine awp_block ?_
   refine awp_seq ?_
   refine xa 2 ?_
   refine rg_q (q_m rfl) (rg_q (q_a rfl) ?_)
   refine rs (xa 6 ?_)
   refine rg_q (q_move (x := .d (.fn _ _)) rfl) (rg_q (q_move (x := .d (.sl _ _)) rfl) (rg_q (q_m rfl) ?_))
   refine rg_q (q_indexAddr sl77 rfl rfl (by omega) (map_at (by omega) hx)) ?_
   refine rg_q (q_load sz3 rfl rfl) ?_
   refine rg_q (q_callC hen rfl (.cons rfl .nil) (hfx)) ?_
   refine xc (awp_cond rfl (fun hc4 => ?_) (fun hc4 => ?_))
   ·
    (try simp only [nb, ne_eq] at hc4)
    refine awp_seq ?_
    refine xa 2 ?_
    refine rg_q (q_m rfl) (rg_q (q_a rfl) ?_)
    refine xc (awp_ret ?_)
    refine ⟨_, xk1, ?_⟩
    rw [hh, hd, if_pos (by simpa using hc4)]; rfl
   ·
    (try simp only [nb, ne_eq] at hc4)
    refine awp_skip ?_
    change Awp _ _ _ _ _
    refine xa 2 ?_
    refine rg_q (q_add rfl rfl xi) ?_
    refine rg_q (q_m rfl) ?_
    refine rn ?_
    refine ⟨k + 1, ⟨by omega, by rw [hh, hd, if_neg (by simpa using hc4)]⟩, by omega, ?_⟩
    exact xh (ms := []) (by repeat (first | exact Out.head rfl rfl | (refine Out.put ?_ rfl))) ⟨(by rfl), trivial⟩ trivial
  ·
   (try simp only [nb, ne_eq] at hc2)
   refine awp_exit ?_
   change Awp _ _ _ _ _
   refine awp_seq ?_
   refine xa 1 ?_
   refine rg_q (q_a rfl) ?_
   refine xc (awp_ret ?_)
   refine ⟨_, xk1, ?_⟩
   rw [hh, List.drop_of_length_le (by omega)]; rfl

theorem idxOf_any {α : Type} (f : α → Bool) : ∀ (l : List α) (i : Nat), decide (0 ≤ idxOf f i l) = l.any f
  | [], i => by unfold idxOf; simp
  | x :: xs, i => by
    unfold idxOf
    by_cases h : f x = true
    · rw [if_pos h]; simp [h]
    · rw [if_neg h, idxOf_any f xs]; simp [h]
theorem idxOf_mem {α : Type} (f : α → Bool) (l : List α) : decide (0 ≤ idxOf f 0 l) = l.any f := idxOf_any f l 0
theorem containsInt_p (f : Int → Bool) (g : FuncId) (cap : List D) (hen : enB Tryz.prog g = true) (l : List Int) (hf : ∀ a ∈ l, PC Tryz.prog g (.v (.int .i64 a) :: cap) (.v (.bool (f a)))) : PC Tryz.prog 181 [.sl 1 (l.map iC), .fn (.func g) cap] (.v (.bool (l.any f))) := by
 have hm := idxOf_mem f l
 refine pc_of_awp Tryz.func181 rfl Tryz.ntmps181 (rs := [.tmp 4]) Tryz.results181 (by simp) fun w0 => ?_
 refine awp_seq ?_
 refine xa 1 ?_
 refine rg_q (q_a rfl) ?_
 refine rs (xa 5 ?_)
 refine rg_q (q_move (x := .d (.sl _ _)) rfl) (rg_q (q_move (x := .d (.fn _ _)) rfl) ?_)
 refine rg_q (q_call en247 (.cons rfl (.cons rfl .nil)) rfl (indexInt_p f g cap hen l hf)) ?_
 refine rg_q (q_geq rfl rfl) (rg_q (q_a rfl) ?_)
 refine xc (awp_ret ?_)
 refine ⟨_, xk1, ?_⟩
 rw [← hm]; rfl
end Go.Proofs.YtamaocfjknpadaaGreat.Am.M
-- mini
set_option maxRecDepth 100000
namespace Go.Proofs.YtamaocfjknpadaaGreat.Am.M
open Go

structure Spc where
  ar : Arr
  pl : List Int
  fl : List Flw
def spcC (s : Spc) : List D := [.sl 2 (s.ar.el.map shC), .v (.int .i64 s.ar.ou.w), .v (.int .i64 s.ar.ou.m), .v (.int .i64 s.ar.ou.k), .v (.int .i64 s.ar.ou.t), .v (.int .i64 s.ar.ba.w), .v (.int .i64 s.ar.ba.m), .v (.int .i64 s.ar.ba.k), .v (.int .i64 s.ar.ba.t), .v (.int .i64 s.ar.ts.1), .v (.int .i64 s.ar.ts.2), .sl 1 (s.pl.map iC), .sl 8 (s.fl.map flwC)]
end Go.Proofs.YtamaocfjknpadaaGreat.Am.M
-- mini
set_option maxRecDepth 100000
namespace Go.Proofs.YtamaocfjknpadaaGreat.Am.M
open Go

def iv (n : Int) : D := .v (.int .i64 n)
def fv (n : Int) : D := .v (.float .f32 (FloatKind.f32.nearest n))
def fC (b : Nat) : List D := [.v (.float .f32 b)]
def fz : D := .v (.float .f32 0)
def outT (S : List Int) (k : Nat) : List D := (S.take k).map fv ++ List.replicate (64 - k) fz
theorem setCs_all {cs xs : List D} (h : xs.length = cs.length) : setCs cs 0 xs = xs := by
  unfold setCs
  rw [List.take_zero, Nat.zero_add, h, List.drop_length]; simp
theorem outT_set {S : List Int} {k : Nat} {x : Int} (hS : S.length = 64) (h : S[k]? = some x) : setCs (outT S k) (0 + (k : Int).toNat * 1) [fv x] = outT S (k + 1) := by
  obtain ⟨hlt, hx⟩ := List.getElem?_eq_some_iff.1 h
  have hl : ((S.take k).map fv).length = k := by rw [List.length_map, List.length_take]; omega
  rw [Int.toNat_natCast, Nat.zero_add, Nat.mul_one, setCs_one (by unfold outT; rw [List.length_append, hl, List.length_replicate]; omega)]
  unfold outT
  rw [List.set_append_right _ _ (by omega), hl, Nat.sub_self, show 64 - k = (64 - (k + 1)) + 1 by omega, List.replicate_succ, List.set_cons_zero, List.take_succ_eq_append_getElem hlt, hx, List.map_append, List.append_assoc]
  rfl
theorem outT_all {S : List Int} (hS : S.length = 64) : outT S 64 = S.map fv := by
  unfold outT
  rw [List.take_of_length_le (by omega)]; simp
def fd (b : Nat) : D := .v (.float .f32 b)
theorem fd_row (l : List Nat) : ((l.map fd).map fun d => [d]) = l.map fC := by rw [List.map_map]; rfl
end Go.Proofs.YtamaocfjknpadaaGreat.Am.M
-- mini
set_option maxRecDepth 100000
namespace Go.Proofs.YtamaocfjknpadaaGreat.Am.M
open Go
theorem within4_p (n lo hi : Int) : PC Tryz.prog 31 [.v (.int .i64 (n)), .v (.int .i64 (lo)), .v (.int .i64 (hi))] (.v (.bool (inR lo n hi))) := by
 refine pc_of_awp Tryz.func31 rfl Tryz.ntmps31 (rs := [.tmp 6]) Tryz.results31 (by simp) fun w0 => ?_
 refine awp_seq ?_
 refine xa 1 ?_
 refine rg_q (q_a rfl) ?_
 refine rs (xa 9 ?_)
 refine rg_q (q_m rfl) (rg_q (q_m rfl) (rg_q (q_leq rfl rfl) (rg_q (q_m rfl) ?_)))
 refine rg_g rfl rfl (fun hG => (q_m rfl)) ?_
 refine rg_g rfl rfl (fun hG => (q_m rfl)) ?_
 refine rg_g rfl rfl (fun hG => (q_leq rfl rfl)) ?_
 refine rg_pick rfl rfl rfl rfl rfl rfl ?_
 refine rg_q (q_a rfl) ?_
 refine xc (awp_ret ?_)
 refine ⟨_, xk1, ?_⟩
 unfold inR; simp only [bif_and]; rfl

end Go.Proofs.YtamaocfjknpadaaGreat.Am.M
-- mini
set_option maxRecDepth 100000
namespace Go.Proofs.YtamaocfjknpadaaGreat.Am.M
open Go

end Go.Proofs.YtamaocfjknpadaaGreat.Am.M
-- mini
set_option maxRecDepth 100000
namespace Go.Proofs.YtamaocfjknpadaaGreat.Am.M
open Go

section
variable {P : Program} {w0 : Cx} {ops : List Oper} {rest : List Oper} {R : Exit → St → Prop} {st : St} {ty : TypeId} {pos : String} {after : Array Edge}
end

end Go.Proofs.YtamaocfjknpadaaGreat.Am.M
-- mini
set_option maxRecDepth 100000
namespace Go.Proofs.YtamaocfjknpadaaGreat.Am.M
open Go

end Go.Proofs.YtamaocfjknpadaaGreat.Am.M
-- mini
set_option maxRecDepth 100000
namespace Go.Proofs.YtamaocfjknpadaaGreat.Am.M
open Go

section
variable {P : Program} {w0 : Cx} {ty : TypeId} {pos : String} {after : Array Edge}
end

end Go.Proofs.YtamaocfjknpadaaGreat.Am.M
-- mini
set_option maxRecDepth 100000
namespace Go.Proofs.YtamaocfjknpadaaGreat.Am.M
open Go

end Go.Proofs.YtamaocfjknpadaaGreat.Am.M
-- mini
set_option maxRecDepth 100000
namespace Go.Proofs.YtamaocfjknpadaaGreat.Am.M
open Go

section
variable {P : Program} {w0 : Cx} {n : Nat} {s : Nat → Site} {ev : Operand → T} {dst : Option Tmp} {ty : TypeId} {pos : String} {after : Array Edge} {g : Option (Nat × Bool)}
theorem q_fieldA {t : TypeId} {y : Operand} {f off m : Nat} {ft : TypeId} {cs ds : List D} (ht : (match P.underlying t with | some (.struct fs) => (fs[f]?).map (fun fd => (fd.offset, fd.type)) | _ => none) = some (off, ft)) (hs : szB P ft true m = true) (hy : ev y = .d (.agg cs)) (hd : (cs.drop off).take m = ds) (hl : ds.length = m) : QOp P w0 n s ev ⟨dst, .field t y f, ty, pos, after, g⟩ (.d (.agg ds)) :=
  .mk fun a w ok blk val h _ hnew => by
    subst hd
    obtain ⟨vs, hv, hL, hsc⟩ := agg_inv (show Rep w _ (.agg cs) (a.eval y) by have := h y; rw [hy] at this; exact this)
    have hlen : vs.length = cs.length := hL.length
    refine ⟨.agg ((vs.drop off).take m).toArray, w, ?_, Ext.refl w, ?_⟩
    · cases hu : P.underlying t with
      | none => simp [hu] at ht
      | some q =>
        cases q <;> simp only [hu, reduceCtorEq] at ht
        rename_i fs
        cases hf : fs[f]? with
        | none => simp [hf] at ht
        | some fd =>
          simp only [hf, Option.map_some, Option.some.injEq, Prod.mk.injEq] at ht
          obtain ⟨e1, e2⟩ := ht
          subst e1; subst e2
          simp [execOp, Instr.field, run_underlying hu, hf, hv, asAgg, part, szB_agg hs, szB_size hs]
    · refine Rep.agg _ _ (by rw [List.length_take, List.length_drop, List.length_take, List.length_drop, hlen]) (fun j d hj => ?_) (fun j d v hj hv => ?_)
      · rw [List.getElem?_take] at hj
        split at hj
        · rw [List.getElem?_drop] at hj; exact hsc _ d hj
        · cases hj
      · rw [List.getElem?_take] at hj hv
        split at hj
        · rename_i hjm
          rw [if_pos hjm, List.getElem?_drop] at hv
          rw [List.getElem?_drop] at hj
          exact hL.get _ d v hj hv
        · cases hj
end

def oneM : Md := ⟨2500, 5000, 0, 1000⟩
def oneS : Spc := ⟨⟨[(0, -300)], oneM, oneM, (3900000, 50000)⟩, [3, -2], [⟨0, (0, 400), (0, 0), 0, 10, 0⟩]⟩
def exB : List Nat := 0 :: 0 :: 1106247680 :: 3248488448 :: List.replicate 60 0
theorem one_p  : PC Tryz.prog 151 [] (.agg (spcC oneS)) := by
 refine pc_of_awp Tryz.func151 rfl Tryz.ntmps151 (rs := [.cell 0 130]) Tryz.results151 (by simp) fun w0 => ?_
 refine awp_seq ?_
 refine xa 0 ?_
 refine rg_nil ?_
 refine aops_alloc zr130 rfl rfl rfl ?_
 refine aops_nil (xq (xa 1 ?_))
 refine rg_q (q_build (cs := [_, _, _, _]) pl24 zr24 rfl (.cons rfl (by exact .inl rfl) (.cons rfl (by exact .inl rfl) (.cons rfl (by exact .inl rfl) .nil))) ⟨⟨rfl, by decide⟩, ⟨rfl, by decide⟩, ⟨rfl, by decide⟩, trivial⟩ rfl) ?_
 refine rg_nil ?_
 refine aops_alloc zr24 rfl rfl rfl ?_
 refine aops_store sz24 rfl rfl (by exact .inr ⟨_, rfl⟩) rfl rfl (by decide) rfl ?_
 refine aops_nil (xq (xa 11 ?_))
 refine rg_q (q_build (cs := [_, _]) pl33 zr33 rfl (.cons rfl (by exact .inl rfl) (.cons rfl (by exact .inl rfl) .nil)) ⟨⟨rfl, by decide⟩, ⟨rfl, by decide⟩, trivial⟩ rfl) ?_
 refine rg_q (q_buildSlice sl22 zr33 rfl rfl (by decide) (.cons rfl (by exact .inr ⟨_, rfl⟩) .nil) ⟨rfl, rfl, trivial⟩ rfl (by decide) rfl) ?_
 refine rg_q (q_load_refA (ds := [_, _, _, _]) sz24 rfl rfl rfl rfl) ?_
 refine rg_q (q_load_refA (ds := [_, _, _, _]) sz24 rfl rfl rfl rfl) ?_
 refine rg_q (q_build (cs := [_, _]) pl26 zr26 rfl (.cons rfl (by exact .inl rfl) (.cons rfl (by exact .inl rfl) .nil)) ⟨⟨rfl, by decide⟩, ⟨rfl, by decide⟩, trivial⟩ rfl) ?_
 refine rg_q (q_build (cs := [_, _, _, _, _, _, _, _, _, _, _]) pl28 zr28 rfl (.cons rfl (by exact .inl rfl) (.cons rfl (by exact .inr ⟨_, rfl⟩) (.cons rfl (by exact .inr ⟨_, rfl⟩) (.cons rfl (by exact .inr ⟨_, rfl⟩) .nil)))) ⟨⟨rfl, by decide⟩, ⟨rfl, by decide⟩, ⟨rfl, by decide⟩, ⟨rfl, by decide⟩, trivial⟩ rfl) ?_
 refine rg_q (q_buildSlice sl77 zr3 rfl rfl (by decide) (.cons rfl (by exact .inl rfl) (.cons rfl (by exact .inl rfl) .nil)) ⟨rfl, rfl, rfl, rfl, trivial⟩ rfl (by decide) rfl) ?_
 refine rg_q (q_build (cs := [_, _]) pl33 zr33 rfl (.cons rfl (by exact .inl rfl) (.cons rfl (by exact .inl rfl) .nil)) ⟨⟨rfl, by decide⟩, ⟨rfl, by decide⟩, trivial⟩ rfl) ?_
 refine rg_q (q_build (cs := [_, _, _, _, _, _, _, _]) pl135 zr135 rfl (.cons rfl (by exact .inr ⟨_, rfl⟩) (.cons rfl (by exact .inl rfl) .nil)) ⟨⟨rfl, by decide⟩, ⟨rfl, by decide⟩, trivial⟩ rfl) ?_
 refine rg_q (q_buildSlice sl128 zr135 rfl rfl (by decide) (.cons rfl (by exact .inr ⟨_, rfl⟩) .nil) ⟨rfl, rfl, trivial⟩ rfl (by decide) rfl) ?_
 refine rg_q (q_build pl130 zr130 rfl (.cons rfl (by exact .inr ⟨_, rfl⟩) (.cons rfl (by exact .inl rfl) (.cons rfl (by exact .inl rfl) .nil))) ⟨⟨rfl, by decide⟩, ⟨rfl, by decide⟩, ⟨rfl, by decide⟩, trivial⟩ rfl) ?_
 refine rg_nil ?_
 refine aops_store sz130 rfl rfl (by exact .inr ⟨_, rfl⟩) rfl rfl (by decide) rfl ?_
 refine aops_nil ?_
 change Awp _ _ _ _ _
 refine awp_ret ?_
 refine ⟨_, (.cons (.cellA rfl rfl sz130 rfl) .nil), ?_⟩
 rfl
end Go.Proofs.YtamaocfjknpadaaGreat.Am.M
-- mini
set_option maxRecDepth 100000
namespace Go.Proofs.YtamaocfjknpadaaGreat.Am.M
open Go
end Go.Proofs.YtamaocfjknpadaaGreat.Am.M
-- mini
set_option maxRecDepth 100000
namespace Go.Proofs.YtamaocfjknpadaaGreat.Am.M
open Go
theorem risSpot_p (p : Int × Int) : PC Tryz.prog 167 [.agg (shC p)] (.v (.bool ((inR (-100000) p.1 100000 && inR (-100000) p.2 100000)))) := by
 refine pc_of_awp Tryz.func167 rfl Tryz.ntmps167 (rs := [.tmp 2]) Tryz.results167 (by simp) fun w0 => ?_
 refine awp_seq ?_
 refine xa 2 ?_
 refine rg_q (q_box rfl (by exact .inr ⟨_, rfl⟩)) ?_
 refine rg_q (q_a rfl) ?_
 refine rs (xa 9 ?_)
 refine rg_q (q_fieldAddr fld33_0 rfl) (rg_q (q_load sz3 rfl rfl) ?_)
 refine rg_q (q_call en31 (.cons rfl (.cons rfl (.cons rfl .nil))) rfl (within4_p _ _ _)) ?_
 refine rg_q (q_m rfl) ?_
 refine rg_g rfl rfl (fun hG => (q_fieldAddr fld33_1 rfl)) ?_
 refine rg_g rfl rfl (fun hG => (q_load sz3 rfl rfl)) ?_
 refine rg_g rfl rfl (fun hG => (q_call en31 (.cons rfl (.cons rfl (.cons rfl .nil))) rfl (within4_p _ _ _))) ?_
 refine rg_pick rfl rfl rfl rfl rfl rfl ?_
 refine rg_q (q_a rfl) ?_
 refine xc (awp_ret ?_)
 refine ⟨_, xk1, ?_⟩
 simp only [bif_and]; rfl

theorem spotE_is (p : Int × Int) : spotE p = if (inR (-100000) p.1 100000 && inR (-100000) p.2 100000) = true then 0 else 2 := by
  by_cases h : spotE p = 0
  · rw [h]
    have := spot_ok.1 h
    rw [if_pos (by simp [inR]; omega)]
  · have h2 : spotE p = 2 := by
      unfold spotE mustI at h ⊢
      split at h
      · exact absurd rfl h
      · rename_i q; rw [if_neg q]
    rw [h2, if_neg]
    intro q
    simp [inR] at q
    exact h (spot_ok.2 (by omega))
end Go.Proofs.YtamaocfjknpadaaGreat.Am.M
-- mini
set_option maxRecDepth 100000
namespace Go.Proofs.YtamaocfjknpadaaGreat.Am.M
open Go
theorem rfloor4_p (n b : Int) (h1 : -1000000000000000000 ≤ n) (h2 : n ≤ 1000000000000000000) (hb : 0 < b) : PC Tryz.prog 273 [.v (.int .i64 (n)), .v (.int .i64 (b))] (.v (.int .i64 (n / b))) := by
 have hq := tdiv_sm (show Sm n from ⟨by omega, by omega⟩) hb
 obtain ⟨h3, h4⟩ := hq
 have hl := floor_law (n := n) hb
 refine pc_of_awp Tryz.func273 rfl Tryz.ntmps273 (rs := [.tmp 4]) Tryz.results273 (by simp) fun w0 => ?_
 refine awp_seq ?_
 refine xa 1 ?_
 refine rg_q (q_a rfl) ?_
 refine rs (xa 4 ?_)
 refine rg_q (q_m rfl) (rg_q (q_m rfl) ?_)
 refine rg_q (q_quo rfl rfl (by omega) xi) ?_
 refine rg_q (q_a rfl) ?_
 refine rs (awp_seq ?_)
 refine xa 4 ?_
 refine rg_q (q_m rfl) (rg_q (q_m rfl) ?_)
 refine rg_q (q_rem rfl rfl (by omega)) ?_
 refine rg_q (q_lss rfl rfl) ?_
 refine xc (awp_cond rfl (fun hc2 => ?_) (fun hc2 => ?_))
 ·
  (try simp only [nb, ne_eq] at hc2)
  rw [if_pos hc2] at hl
  refine xa 3 ?_
  refine rg_q (q_m rfl) ?_
  refine rg_q (q_sub rfl rfl xi) ?_
  refine rg_q (q_a rfl) ?_
  refine rs (xa 2 ?_)
  refine rg_q (q_m rfl) (rg_q (q_a rfl) ?_)
  refine xc (awp_ret ?_)
  refine ⟨_, xk1, ?_⟩
  rw [← hl]; rfl
 ·
  (try simp only [nb, ne_eq] at hc2)
  rw [if_neg (by omega)] at hl
  refine awp_skip ?_
  change Awp _ _ _ _ _
  refine awp_seq ?_
  refine xa 2 ?_
  refine rg_q (q_m rfl) (rg_q (q_a rfl) ?_)
  refine xc (awp_ret ?_)
  refine ⟨_, xk1, ?_⟩
  rw [← hl]; rfl
theorem rrounded4_p (n b : Int) (h1 : -100000000000000 ≤ n) (h2 : n ≤ 100000000000000) (h3 : 1 ≤ b) (h4 : b ≤ 100000000000000) : PC Tryz.prog 239 [.v (.int .i64 (n)), .v (.int .i64 (b))] (.v (.int .i64 (rndI n b))) := by
 refine pc_of_awp Tryz.func239 rfl Tryz.ntmps239 (rs := [.tmp 4]) Tryz.results239 (by simp) fun w0 => ?_
 refine awp_seq ?_
 refine xa 1 ?_
 refine rg_q (q_a rfl) ?_
 refine rs (xa 8 ?_)
 refine rg_q (q_m rfl) ?_
 refine rg_q (q_mul rfl rfl xi) ?_
 refine rg_q (q_m rfl) ?_
 refine rg_q (q_add rfl rfl xi) ?_
 refine rg_q (q_m rfl) ?_
 refine rg_q (q_mul rfl rfl xi) ?_
 refine rg_q (q_call en273 (.cons rfl (.cons rfl .nil)) rfl (rfloor4_p _ _ (by omega) (by omega) (by omega))) ?_
 refine rg_q (q_a rfl) ?_
 refine xc (awp_ret ?_)
 refine ⟨_, xk1, ?_⟩
 rfl
open Go

end Go.Proofs.YtamaocfjknpadaaGreat.Am.M
-- mini
set_option maxRecDepth 100000
namespace Go.Proofs.YtamaocfjknpadaaGreat.Am.M
open Go
theorem Floor_p (n b : Int) (h : Sm n) (hb : 0 < b) : PC Tryz.prog 273 [.v (.int .i64 (n)), .v (.int .i64 (b))] (.v (.int .i64 (n / b))) := by
 have hq := tdiv_sm h hb
 obtain ⟨h1, h2⟩ := h
 obtain ⟨h3, h4⟩ := hq
 have hl := floor_law (n := n) hb
 refine pc_of_awp Tryz.func273 rfl Tryz.ntmps273 (rs := [.tmp 4]) Tryz.results273 (by simp) fun w0 => ?_
 refine awp_seq ?_
 refine xa 1 ?_
 refine rg_q (q_a rfl) ?_
 refine rs (xa 4 ?_)
 refine rg_q (q_m rfl) (rg_q (q_m rfl) ?_)
 refine rg_q (q_quo rfl rfl (by omega) xi) ?_
 refine rg_q (q_a rfl) ?_
 refine rs (awp_seq ?_)
 refine xa 4 ?_
 refine rg_q (q_m rfl) (rg_q (q_m rfl) ?_)
 refine rg_q (q_rem rfl rfl (by omega)) ?_
 refine rg_q (q_lss rfl rfl) ?_
 refine xc (awp_cond rfl (fun hc2 => ?_) (fun hc2 => ?_))
 ·
  (try simp only [nb, ne_eq] at hc2)
  rw [if_pos hc2] at hl
  refine xa 3 ?_
  refine rg_q (q_m rfl) ?_
  refine rg_q (q_sub rfl rfl xi) ?_
  refine rg_q (q_a rfl) ?_
  refine rs (xa 2 ?_)
  refine rg_q (q_m rfl) (rg_q (q_a rfl) ?_)
  refine xc (awp_ret ?_)
  refine ⟨_, xk1, ?_⟩
  rw [← hl]; rfl
 ·
  (try simp only [nb, ne_eq] at hc2)
  rw [if_neg (by omega)] at hl
  refine awp_skip ?_
  change Awp _ _ _ _ _
  refine awp_seq ?_
  refine xa 2 ?_
  refine rg_q (q_m rfl) (rg_q (q_a rfl) ?_)
  refine xc (awp_ret ?_)
  refine ⟨_, xk1, ?_⟩
  rw [← hl]; rfl
theorem Ceil_p (n b : Int) (h : Sm n) (hb : 0 < b) : PC Tryz.prog 287 [.v (.int .i64 (n)), .v (.int .i64 (b))] (.v (.int .i64 (ceilI n b))) := by
 obtain ⟨h1, h2⟩ := h
 have hq := ediv_sm (a := -n) ⟨by omega, by omega⟩ hb
 obtain ⟨h3, h4⟩ := hq
 refine pc_of_awp Tryz.func287 rfl Tryz.ntmps287 (rs := [.tmp 4]) Tryz.results287 (by simp) fun w0 => ?_
 refine awp_seq ?_
 refine xa 1 ?_
 refine rg_q (q_a rfl) ?_
 refine rs (xa 6 ?_)
 refine rg_q (q_m rfl) ?_
 refine rg_q (q_neg rfl xi) ?_
 refine rg_q (q_m rfl) ?_
 refine rg_q (q_call en273 (.cons rfl (.cons rfl .nil)) rfl (Floor_p _ _ ⟨by omega, by omega⟩ (by omega))) ?_
 refine rg_q (q_neg rfl xi) ?_
 refine rg_q (q_a rfl) ?_
 refine xc (awp_ret ?_)
 refine ⟨_, xk1, ?_⟩
 rfl
theorem bcompare_p (n d m k : Int) (hn : Sm n) (hd : 0 < d ∧ Sm d) (hm : Sm m) (hk : 0 < k ∧ Sm k) : PC Tryz.prog 306 [.v (.int .i64 (n)), .v (.int .i64 (d)), .v (.int .i64 (m)), .v (.int .i64 (k))] (.v (.int .i64 (cmpI n d m k))) := by
 refine pc_of_awp Tryz.func306 rfl Tryz.ntmps306 (rs := [.tmp 8]) Tryz.results306 (by simp) fun w0 => ?_
 refine awp_seq ?_
 refine xa 1 ?_
 refine rg_q (q_a rfl) ?_
 refine xc (awp_block ?_)
 refine awp_loopH [0, 1, 2, 3, 8, 9, 10, 11, 12, 13, 14, 15, 16, 17, 18, 19, 20, 21, 22, 23, 24, 25, 26, 27, 28, 29, 30, 31, 32, 33, 34, 35, 36, 37, 38, 39, 40, 41, 42, 43, 44, 45, 46] [] (α := Int × Int × Int × Int) (fun x => [(0, T.i x.1), (1, T.i x.2.1), (2, T.i x.2.2.1), (3, T.i x.2.2.2)]) (fun x => []) (fun x => Sm x.1 ∧ (0 < x.2.1 ∧ Sm x.2.1) ∧ Sm x.2.2.1 ∧ (0 < x.2.2.2 ∧ Sm x.2.2.2) ∧ cmpI n d m k = cmpI x.1 x.2.1 x.2.2.1 x.2.2.2) (fun x => (x.2.1 + x.2.2.2).toNat) (n, d, m, k) ⟨hn, hd, hm, hk, rfl⟩ ?_ ?_
 · exact xh (ms := []) (by repeat (exact Out.refl _)) ⟨(by rfl), (by rfl), (by rfl), (by rfl), trivial⟩ trivial
 ·
  intro ⟨n', d', m', k'⟩ ⟨gn, ⟨gd0, gd⟩, gm, ⟨gk0, gk⟩, hh⟩
  simp only at gn gd0 gd gm gk0 gk hh
  have hmn := Int.emod_nonneg n' (show d' ≠ 0 by omega)
  have hmm := Int.emod_nonneg m' (show k' ≠ 0 by omega)
  have hln := Int.emod_lt_of_pos n' gd0
  have hlm := Int.emod_lt_of_pos m' gk0
  have hsn := sub_mod n' d'
  have hsm := sub_mod m' k'
  have hgn := gn
  have hgm := gm
  obtain ⟨gn1, gn2⟩ := gn
  obtain ⟨gm1, gm2⟩ := gm
  obtain ⟨gd1, gd2⟩ := gd
  obtain ⟨gk1, gk2⟩ := gk
  refine awp_block ?_
  refine awp_seq ?_
  refine xa 8 ?_
  refine rg_q (q_m rfl) (rg_q (q_m rfl) ?_)
  refine rg_q (q_call en273 (.cons rfl (.cons rfl .nil)) rfl (Floor_p _ _ hgn gd0)) ?_
  refine rg_q (q_m rfl) (rg_q (q_m rfl) ?_)
  refine rg_q (q_call en273 (.cons rfl (.cons rfl .nil)) rfl (Floor_p _ _ hgm gk0)) ?_
  refine rg_q (q_a rfl) (rg_q (q_a rfl) ?_)
  refine rs (awp_seq ?_)
  refine xa 3 ?_
  refine rg_q (q_m rfl) (rg_q (q_m rfl) (rg_q (q_lss rfl rfl) ?_))
  refine xc (awp_cond rfl (fun hc2 => ?_) (fun hc2 => ?_))
  ·
   (try simp only [nb, ne_eq] at hc2)
   have hz : cmpI n d m k = -1 := by rw [hh]; unfold cmpI; rw [if_pos (cmp_lt gd0 gk0 hc2)]
   refine awp_seq ?_
   refine xa 1 ?_
   refine rg_q (q_a rfl) ?_
   refine xc (awp_ret ?_)
   refine ⟨_, xk1, ?_⟩
   rw [hz]; rfl
  ·
   (try simp only [nb, ne_eq] at hc2)
   refine awp_skip ?_
   change Awp _ _ _ _ _
   refine awp_seq ?_
   refine awp_seq ?_
   refine xa 3 ?_
   refine rg_q (q_m rfl) (rg_q (q_m rfl) (rg_q (q_gtr rfl rfl) ?_))
   refine xc (awp_cond rfl (fun hc4 => ?_) (fun hc4 => ?_))
   ·
    (try simp only [nb, ne_eq] at hc4)
    have hz : cmpI n d m k = 1 := by
     have := cmp_gt gd0 gk0 hc4
     rw [hh]; unfold cmpI; rw [if_neg (by omega), if_pos this]
    refine awp_seq ?_
    refine xa 1 ?_
    refine rg_q (q_a rfl) ?_
    refine xc (awp_ret ?_)
    refine ⟨_, xk1, ?_⟩
    rw [hz]; rfl
   ·
    (try simp only [nb, ne_eq] at hc4)
    have hpq : n' / d' = m' / k' := by omega
    have h2 := hh.trans (cmp_mod hpq)
    refine awp_skip ?_
    change Awp _ _ _ _ _
    refine awp_seq ?_
    refine xa 12 ?_
    refine rg_q (q_m rfl) (rg_q (q_m rfl) (rg_q (q_m rfl) ?_))
    refine rg_q (q_mul rfl rfl (In64.mk (by (simp only; omega)) (by (simp only; omega)))) ?_
    refine rg_q (q_sub rfl rfl (In64.mk (by (simp only; omega)) (by (simp only; omega)))) ?_
    refine rg_q (q_m rfl) (rg_q (q_m rfl) (rg_q (q_m rfl) ?_))
    refine rg_q (q_mul rfl rfl (In64.mk (by (simp only; omega)) (by (simp only; omega)))) ?_
    refine rg_q (q_sub rfl rfl (In64.mk (by (simp only; omega)) (by (simp only; omega)))) ?_
    refine rg_q (q_a rfl) (rg_q (q_a rfl) ?_)
    refine rs (awp_seq ?_)
    refine xa 6 ?_
    refine rg_q (q_m rfl) (rg_q (q_eql rfl rfl) (rg_q (q_m rfl) ?_))
    refine rg_g rfl rfl (fun hG => (q_m rfl)) ?_
    refine rg_g rfl rfl (fun hG => (q_eql rfl rfl)) ?_
    refine rg_pick rfl rfl rfl rfl rfl rfl ?_
    refine xc (awp_cond rfl (fun hc7 => ?_) (fun hc7 => ?_))
    ·
     (try simp only [nb, ne_eq] at hc7)
     refine awp_seq ?_
     refine xa 1 ?_
     refine rg_q (q_a rfl) ?_
     refine xc (awp_ret ?_)
     refine ⟨_, xk1, ?_⟩
     have e1 : n' % d' = 0 := by rw [← hsn]; omega
     have e2 : m' % k' = 0 := by rw [← hsm]; omega
     have hz : cmpI n d m k = 0 := by rw [h2, e1, e2]; unfold cmpI; simp
     rw [hz]; rfl
    ·
     (try simp only [nb, ne_eq] at hc7)
     refine awp_skip ?_
     change Awp _ _ _ _ _
     refine awp_seq ?_
     refine awp_seq ?_
     refine xa 2 ?_
     refine rg_q (q_m rfl) (rg_q (q_eql rfl rfl) ?_)
     refine xc (awp_cond rfl (fun hc9 => ?_) (fun hc9 => ?_))
     ·
      (try simp only [nb, ne_eq] at hc9)
      refine awp_seq ?_
      refine xa 1 ?_
      refine rg_q (q_a rfl) ?_
      refine xc (awp_ret ?_)
      refine ⟨_, xk1, ?_⟩
      have e1 : n' % d' = 0 := by rw [← hsn]; omega
      have e2 : 0 < m' % k' := by rw [e1] at *; omega
      have e3 : 0 < m' % k' * d' := Int.mul_pos e2 gd0
      have hz : cmpI n d m k = -1 := by rw [h2, e1]; unfold cmpI; rw [if_pos (by omega)]
      rw [hz]; rfl
     ·
      (try simp only [nb, ne_eq] at hc9)
      refine awp_skip ?_
      change Awp _ _ _ _ _
      refine awp_seq ?_
      refine awp_seq ?_
      refine xa 2 ?_
      refine rg_q (q_m rfl) (rg_q (q_eql rfl rfl) ?_)
      refine xc (awp_cond rfl (fun hc11 => ?_) (fun hc11 => ?_))
      ·
       (try simp only [nb, ne_eq] at hc11)
       refine awp_seq ?_
       refine xa 1 ?_
       refine rg_q (q_a rfl) ?_
       refine xc (awp_ret ?_)
       refine ⟨_, xk1, ?_⟩
       have e1 : m' % k' = 0 := by rw [← hsm]; omega
       have e2 : 0 < n' % d' := by rw [e1] at *; omega
       have e3 : 0 < n' % d' * k' := Int.mul_pos e2 gk0
       have hz : cmpI n d m k = 1 := by rw [h2, e1]; unfold cmpI; rw [if_neg (by omega), if_pos (by omega)]
       rw [hz]; rfl
      ·
       (try simp only [nb, ne_eq] at hc11)
       refine awp_skip ?_
       change Awp _ _ _ _ _
       refine xa 8 ?_
       refine rg_q (q_m rfl) (rg_q (q_m rfl) (rg_q (q_m rfl) (rg_q (q_m rfl) (rg_q (q_a rfl) (rg_q (q_a rfl) ?_)))))
       refine rg_q (q_a rfl) (rg_q (q_a rfl) ?_)
       refine rn ?_
       have e1 : 0 < n' % d' := by omega
       have e2 : 0 < m' % k' := by omega
       refine ⟨(k', m' % k', d', n' % d'), ⟨⟨gk1, gk2⟩, ⟨e2, by constructor <;> simp only <;> omega⟩, ⟨gd1, gd2⟩, ⟨e1, by constructor <;> simp only <;> omega⟩, by rw [h2, cmp_swap]⟩, by simp only; omega, ?_⟩
       exact xh (ms := []) (by repeat (first | exact Out.head rfl rfl | (refine Out.put ?_ rfl))) ⟨(by rfl), (by ((show T.i _ = T.i _; rw [hsm]; done))), (by rfl), (by ((show T.i _ = T.i _; rw [hsn]; done))), trivial⟩ trivial

theorem tdiv_in {n d : Int} (h0 : 0 ≤ n) (hd : 0 < d) : 0 ≤ n.tdiv d ∧ n.tdiv d ≤ n := by
  refine ⟨Int.tdiv_nonneg h0 (by omega), ?_⟩
  have := Int.tdiv_le_self (a := n) d h0
  omega

def sgn1 (n : Int) : Int := if 0 < n then 1 else if n < 0 then -1 else 0
theorem sgn1_pos {n : Int} (h : 0 < n) : sgn1 n = 1 := by unfold sgn1; rw [if_pos h]
theorem sgn1_neg {n : Int} (h : n < 0) : sgn1 n = -1 := by unfold sgn1; rw [if_neg (by omega), if_pos h]
def cmpX (x : Crs) (t : Int) : Int := cmpI ((t - x.x1) * (t - x.x1) * x.v2 * x.v2) ((t - x.x1) * (t - x.x1) + x.h1 * x.h1) ((x.x2 - t) * (x.x2 - t) * x.v1 * x.v1) ((x.x2 - t) * (x.x2 - t) + x.h2 * x.h2)
theorem cmpX_eq (x : Crs) (t : Int) : cmpX x t = sgnI (oneI x t) (twoI x t) := by
  have e1 : (t - x.x1) * (t - x.x1) * x.v2 * x.v2 * ((x.x2 - t) * (x.x2 - t) + x.h2 * x.h2) = oneI x t := by unfold oneI; grind
  have e2 : (x.x2 - t) * (x.x2 - t) * x.v1 * x.v1 * ((t - x.x1) * (t - x.x1) + x.h1 * x.h1) = twoI x t := by unfold twoI; grind
  unfold cmpX cmpI sgnI
  rw [e1, e2]
  by_cases h : oneI x t = twoI x t
  · rw [if_neg (by omega), if_neg (by omega), if_pos h]
  · rw [if_neg h]
    by_cases h' : oneI x t < twoI x t
    · rw [if_pos h', if_pos h']
    · rw [if_neg h', if_neg h', if_pos (by omega)]
def rslope (x : Crs) (t : Int) : Int := if t - x.x1 = 0 ∨ x.x2 - t = 0 then sgn1 (sgn1 (t - x.x1) - sgn1 (x.x2 - t)) else if sgn1 (t - x.x1) + sgn1 (x.x2 - t) < 0 then -(cmpX x t) else cmpX x t
theorem one_pos {x : Crs} (hx : CrsOk x) {t : Int} (h : t - x.x1 ≠ 0) : 0 < oneI x t := by
  obtain ⟨_, _, _, _, c1, _, d1, _, e1, _, f1, _⟩ := hx
  have e : oneI x t = ((t - x.x1) * (t - x.x1)) * (x.v2 * x.v2) * ((x.x2 - t) * (x.x2 - t) + x.h2 * x.h2) := by unfold oneI; grind
  have sq : ∀ n : Int, n ≠ 0 → 0 < n * n := fun n hn => by
    rcases Int.lt_trichotomy n 0 with q | q | q
    · exact Int.mul_pos_of_neg_of_neg q q
    · exact absurd q hn
    · exact Int.mul_pos q q
  have s0 : 0 ≤ (x.x2 - t) * (x.x2 - t) := by
    by_cases q : x.x2 - t = 0
    · rw [q]; simp
    · exact Int.le_of_lt (sq _ q)
  rw [e]
  have := sq _ (show x.h2 ≠ 0 by omega)
  exact Int.mul_pos (Int.mul_pos (sq _ h) (sq _ (by omega))) (by omega)
theorem two_pos {x : Crs} (hx : CrsOk x) {t : Int} (h : x.x2 - t ≠ 0) : 0 < twoI x t := by
  obtain ⟨_, _, _, _, c1, _, d1, _, e1, _, f1, _⟩ := hx
  have e : twoI x t = ((x.x2 - t) * (x.x2 - t)) * (x.v1 * x.v1) * ((t - x.x1) * (t - x.x1) + x.h1 * x.h1) := by unfold twoI; grind
  have sq : ∀ n : Int, n ≠ 0 → 0 < n * n := fun n hn => by
    rcases Int.lt_trichotomy n 0 with q | q | q
    · exact Int.mul_pos_of_neg_of_neg q q
    · exact absurd q hn
    · exact Int.mul_pos q q
  have s0 : 0 ≤ (t - x.x1) * (t - x.x1) := by
    by_cases q : t - x.x1 = 0
    · rw [q]; simp
    · exact Int.le_of_lt (sq _ q)
  rw [e]
  have := sq _ (show x.h1 ≠ 0 by omega)
  exact Int.mul_pos (Int.mul_pos (sq _ h) (sq _ (by omega))) (by omega)
theorem sgn1_zero : sgn1 0 = 0 := by decide
theorem rslope_eq {x : Crs} (hx : CrsOk x) {t : Int} (h1 : loX x ≤ t) (h2 : t ≤ hiX x) : rslope x t = slopeI x t := by
  unfold rslope slopeI
  rw [cmpX_eq]
  unfold loX at h1
  unfold hiX at h2
  by_cases ha : t - x.x1 = 0
  · rw [if_pos (.inl ha), ha, sgn1_zero]
    have h0 : oneI x t = 0 := by unfold oneI; rw [ha]; simp
    rw [h0]
    by_cases hb : x.x2 - t = 0
    · have h3 : twoI x t = 0 := by unfold twoI; rw [hb]; simp
      rw [hb, h3, sgn1_zero]
      unfold sgnI sgn1; simp
    · have h3 := two_pos hx hb
      rw [show sgnI 0 (twoI x t) = -1 by unfold sgnI; rw [if_neg (by omega), if_pos h3]]
      by_cases hlt : x.x2 < x.x1
      · rw [if_pos hlt, sgn1_neg (show x.x2 - t < 0 by omega)]; decide
      · rw [if_neg hlt, sgn1_pos (show 0 < x.x2 - t by omega)]; decide
  · have h0 := one_pos hx ha
    by_cases hb : x.x2 - t = 0
    · rw [if_pos (.inr hb), hb, sgn1_zero]
      have h3 : twoI x t = 0 := by unfold twoI; rw [hb]; simp
      rw [h3, show sgnI (oneI x t) 0 = 1 by unfold sgnI; rw [if_neg (by omega), if_neg (by omega)]]
      by_cases hlt : x.x2 < x.x1
      · rw [if_pos hlt, sgn1_neg (show t - x.x1 < 0 by omega)]; decide
      · rw [if_neg hlt, sgn1_pos (show 0 < t - x.x1 by omega)]; decide
    · rw [if_neg (by omega)]
      by_cases hlt : x.x2 < x.x1
      · rw [if_pos hlt, sgn1_neg (show t - x.x1 < 0 by omega), sgn1_neg (show x.x2 - t < 0 by omega), if_pos (by decide)]
      · rw [if_neg hlt, sgn1_pos (show 0 < t - x.x1 by omega), sgn1_pos (show 0 < x.x2 - t by omega), if_neg (by decide)]
theorem modeE_ref (m : Md) : (if firstE [speedE m.w, speedE m.m] ≠ 0 then firstE [speedE m.w, speedE m.m] else if (!inR 0 m.k 4 || !inR 2 m.t 20000) = true then 2 else 0) = modeE m := by
  unfold modeE mustI firstE
  by_cases h1 : speedE m.w = 0
  · simp only [firstE, h1, if_true]
    by_cases h2 : speedE m.m = 0
    · simp only [h2, if_true]
      cases inR 0 m.k 4 <;> cases inR 2 m.t 20000 <;> simp
    · simp [h2]
  · simp [firstE, h1]
theorem xspeedErr_p (v : Int) : PC Tryz.prog 189 [.v (.int .i64 (v))] (.v (.int .i64 (speedE v))) := by
 refine pc_of_awp Tryz.func189 rfl Tryz.ntmps189 (rs := [.tmp 2]) Tryz.results189 (by simp) fun w0 => ?_
 refine awp_seq ?_
 refine xa 1 ?_
 refine rg_q (q_a rfl) ?_
 refine rs (awp_seq ?_)
 refine xa 3 ?_
 refine rg_q (q_m rfl) ?_
 refine rg_q (q_call en31 (.cons rfl (.cons rfl (.cons rfl .nil))) rfl (within4_p _ _ _)) ?_
 refine rg_q (q_not rfl) ?_
 refine xc (awp_cond rfl (fun hc1 => ?_) (fun hc1 => ?_))
 ·
  (try simp only [nb, ne_eq] at hc1)
  have hz : speedE v = 2 := by unfold speedE mustI; rw [if_neg (by simp_all)]
  refine awp_seq ?_
  refine xa 1 ?_
  refine rg_q (q_a rfl) ?_
  refine xc (awp_ret ?_)
  refine ⟨_, xk1, ?_⟩
  rw [hz]; rfl
 ·
  (try simp only [nb, ne_eq] at hc1)
  have hz : speedE v = 0 := by unfold speedE mustI; rw [if_pos (by simp_all)]
  refine awp_skip ?_
  change Awp _ _ _ _ _
  refine awp_seq ?_
  refine xa 1 ?_
  refine rg_q (q_a rfl) ?_
  refine xc (awp_ret ?_)
  refine ⟨_, xk1, ?_⟩
  rw [hz]; rfl
theorem firstOf_p (l : List Int) : PC Tryz.prog 188 [.sl 1 (l.map iC)] (.v (.int .i64 (firstE l))) := by
 refine pc_of_awp Tryz.func188 rfl Tryz.ntmps188 (rs := [.tmp 2]) Tryz.results188 (by simp) fun w0 => ?_
 refine awp_seq ?_
 refine xa 1 ?_
 refine rg_q (q_a rfl) ?_
 refine rs (awp_seq ?_)
 refine xa 1 ?_
 refine rg_q (q_a rfl) ?_
 refine xc (awp_block ?_)
 refine awp_loopH [2, 3, 4, 5, 6, 7, 8, 9, 10, 11, 12, 13, 14, 15, 16, 17, 18] [] (α := Nat) (fun k => [(3, T.i (k : Int))]) (fun k => []) (fun k => k ≤ l.length ∧ firstE l = firstE (l.drop k)) (fun k => l.length - k) 0 ⟨Nat.zero_le _, rfl⟩ ?_ ?_
 · exact xh (ms := []) (by repeat (exact Out.refl _)) ⟨(by rfl), trivial⟩ trivial
 ·
  intro k ⟨hk, hf⟩
  refine awp_seq ?_
  refine awp_seq ?_
  refine xa 4 ?_
  refine rg_q (q_m rfl) (rg_q (q_move (x := .d (.sl _ _)) rfl) ?_)
  refine rg_q (q_len isl77 rfl (by exact len_map _ _)) ?_
  refine rg_q (q_lss rfl rfl) ?_
  refine xc (awp_len (t := 5) rfl (fun hl5 => ?_))
  (try simp only [List.length_map] at hl5)
  refine awp_cond rfl (fun hc2 => ?_) (fun hc2 => ?_)
  ·
   (try simp only [nb, ne_eq] at hc2)
   have hlt : k < l.length := by omega
   obtain ⟨y, hx⟩ : ∃ y, l[k]? = some y := ⟨_, List.getElem?_eq_getElem hlt⟩
   have hd : firstE (l.drop k) = if y = 0 then firstE (l.drop (k + 1)) else y := by
    rw [List.drop_eq_getElem_cons hlt, (List.getElem?_eq_some_iff.1 hx).2]; rfl
   refine awp_skip ?_
   change Awp _ _ _ _ _
   refine awp_seq ?_
   refine awp_block ?_
   refine awp_seq ?_
   refine xa 5 ?_
   refine rg_q (q_move (x := .d (.sl _ _)) rfl) (rg_q (q_m rfl) ?_)
   refine rg_q (q_indexAddr sl77 rfl rfl (by omega) (map_at (by omega) hx)) ?_
   refine rg_q (q_load sz3 rfl rfl) (rg_q (q_neq rfl rfl) ?_)
   refine xc (awp_cond rfl (fun hc4 => ?_) (fun hc4 => ?_))
   ·
    (try simp only [nb, ne_eq] at hc4)
    refine awp_seq ?_
    refine xa 5 ?_
    refine rg_q (q_move (x := .d (.sl _ _)) rfl) (rg_q (q_m rfl) ?_)
    refine rg_q (q_indexAddr sl77 rfl rfl (by omega) (map_at (by omega) hx)) ?_
    refine rg_q (q_load sz3 rfl rfl) (rg_q (q_a rfl) ?_)
    refine xc (awp_ret ?_)
    refine ⟨_, xk1, ?_⟩
    rw [hf, hd, if_neg (by omega)]; rfl
   ·
    (try simp only [nb, ne_eq] at hc4)
    refine awp_skip ?_
    change Awp _ _ _ _ _
    refine xa 3 ?_
    refine rg_q (q_m rfl) ?_
    refine rg_q (q_add rfl rfl xi) ?_
    refine rg_q (q_a rfl) ?_
    refine rn ?_
    refine ⟨k + 1, ⟨by omega, by rw [hf, hd, if_pos (by omega)]⟩, by omega, ?_⟩
    exact xh (ms := []) (by repeat (first | exact Out.head rfl rfl | (refine Out.put ?_ rfl))) ⟨(by rfl), trivial⟩ trivial
  ·
   (try simp only [nb, ne_eq] at hc2)
   refine awp_exit ?_
   change Awp _ _ _ _ _
   refine awp_seq ?_
   refine xa 1 ?_
   refine rg_q (q_a rfl) ?_
   refine xc (awp_ret ?_)
   refine ⟨_, xk1, ?_⟩
   rw [hf, List.drop_of_length_le (by omega)]; rfl
theorem xcheckMode_p (m : Md) : PC Tryz.prog 124 [.agg (mdC m)] (.v (.int .i64 (modeE m))) := by
 have hr := modeE_ref m
 refine pc_of_awp Tryz.func124 rfl Tryz.ntmps124 (rs := [.tmp 2]) Tryz.results124 (by simp) fun w0 => ?_
 refine awp_seq ?_
 refine xa 2 ?_
 refine rg_q (q_box rfl (by exact .inr ⟨_, rfl⟩)) ?_
 refine rg_q (q_a rfl) ?_
 refine rs (awp_seq ?_)
 refine xa 9 ?_
 refine rg_q (q_fieldAddr fld24_0 rfl) (rg_q (q_load sz3 rfl rfl) ?_)
 refine rg_q (q_call en189 (.cons rfl .nil) rfl (xspeedErr_p _)) ?_
 refine rg_q (q_fieldAddr fld24_1 rfl) (rg_q (q_load sz3 rfl rfl) ?_)
 refine rg_q (q_call en189 (.cons rfl .nil) rfl (xspeedErr_p _)) ?_
 refine rg_q (q_buildSlice sl77 zr3 rfl rfl (by decide) (.cons rfl (by exact .inl rfl) (.cons rfl (by exact .inl rfl) .nil)) ⟨rfl, rfl, rfl, rfl, trivial⟩ rfl (by decide) rfl) ?_
 refine rg_q (q_call en188 (.cons rfl .nil) rfl (firstOf_p [_, _])) ?_
 refine rg_q (q_a rfl) ?_
 refine rs (xa 2 ?_)
 refine rg_q (q_m rfl) (rg_q (q_neq rfl rfl) ?_)
 refine xc (awp_cond rfl (fun hc2 => ?_) (fun hc2 => ?_))
 ·
  (try simp only [nb, ne_eq] at hc2)
  rw [if_pos hc2] at hr
  refine awp_seq ?_
  refine xa 2 ?_
  refine rg_q (q_m rfl) (rg_q (q_a rfl) ?_)
  refine xc (awp_ret ?_)
  refine ⟨_, xk1, ?_⟩
  rw [← hr]; rfl
 ·
  (try simp only [nb, ne_eq] at hc2)
  rw [if_neg (fun h => h hc2)] at hr
  refine awp_skip ?_
  change Awp _ _ _ _ _
  refine awp_seq ?_
  refine awp_seq ?_
  refine xa 10 ?_
  refine rg_q (q_fieldAddr fld24_2 rfl) (rg_q (q_load sz3 rfl rfl) ?_)
  refine rg_q (q_call en31 (.cons rfl (.cons rfl (.cons rfl .nil))) rfl (within4_p _ _ _)) ?_
  refine rg_q (q_not rfl) (rg_q (q_m rfl) ?_)
  refine rg_g rfl rfl (fun hG => (q_fieldAddr fld24_3 rfl)) ?_
  refine rg_g rfl rfl (fun hG => (q_load sz3 rfl rfl)) ?_
  refine rg_g rfl rfl (fun hG => (q_call en31 (.cons rfl (.cons rfl (.cons rfl .nil))) rfl (within4_p _ _ _))) ?_
  refine rg_g rfl rfl (fun hG => (q_not rfl)) ?_
  refine rg_pick rfl rfl rfl rfl rfl rfl ?_
  refine xc (awp_cond rfl (fun hc4 => ?_) (fun hc4 => ?_))
  ·
   (try simp only [nb, ne_eq] at hc4)
   rw [if_pos (by simp_all)] at hr
   refine awp_seq ?_
   refine xa 1 ?_
   refine rg_q (q_a rfl) ?_
   refine xc (awp_ret ?_)
   refine ⟨_, xk1, ?_⟩
   rw [← hr]; rfl
  ·
   (try simp only [nb, ne_eq] at hc4)
   rw [if_neg (by simp_all)] at hr
   refine awp_skip ?_
   change Awp _ _ _ _ _
   refine awp_seq ?_
   refine xa 1 ?_
   refine rg_q (q_a rfl) ?_
   refine xc (awp_ret ?_)
   refine ⟨_, xk1, ?_⟩
   rw [← hr]; rfl

def bitI : Nat → Int
  | 0 => 0
  | k + 1 => 2 ^ k
theorem bit_half (k : Nat) : (bitI (k + 1)).tdiv 2 = bitI k := by
  cases k with
  | zero => decide
  | succ j =>
    show ((2 : Int) ^ (j + 1)).tdiv 2 = 2 ^ j
    rw [Int.pow_succ, Int.mul_tdiv_cancel _ (by decide)]
theorem rb_step (n : Int) (k : Nat) (r : Int) : rb n (k + 1) r = rb n k (if (r + 2 ^ k) * (r + 2 ^ k) ≤ n then r + 2 ^ k else r) := rfl
theorem bRoot_p (n : Int) (h0 : 0 ≤ n) (h1 : n < 4611686018427387904) : PC Tryz.prog 307 [.v (.int .i64 (n))] (.v (.int .i64 (rootI n))) := by
  refine pc_of_awp Tryz.func307 rfl Tryz.ntmps307 (rs := [.tmp 2]) Tryz.results307 (by simp) fun w0 => ?_
  refine awp_seq ?_
  refine xa 1 ?_
  refine rg_q (q_a rfl) ?_
  refine rs (xa 2 ?_)
  refine rg_q (q_a rfl) (rg_q (q_a rfl) ?_)
  refine rs (awp_block ?_)
  refine awp_loopH [3, 4, 5, 6, 7, 8, 9, 10, 11, 12, 13, 14, 15, 16, 17, 18, 19, 20] [] (α := Nat × Int) (fun y => [(3, T.i y.2), (4, T.i (bitI y.1))]) (fun y => []) (fun y => 0 ≤ y.2 ∧ y.2 + 2 ^ y.1 ≤ 2147483648 ∧ rb n 31 0 = rb n y.1 y.2) (fun y => y.1) (31, 0) ⟨Int.le_refl _, by decide, rfl⟩ ?_ ?_
  · exact xh (ms := []) (by repeat (exact Out.refl _)) ⟨(by rfl), (by rfl), trivial⟩ trivial
  ·
    intro ⟨k, r⟩ ⟨hr0, hr1, hrb⟩
    simp only at hr0 hr1 hrb
    refine awp_seq ?_
    refine awp_seq ?_
    refine xa 2 ?_
    refine rg_q (q_m rfl) (rg_q (q_gtr rfl rfl) ?_)
    refine xc (awp_cond rfl (fun hc2 => ?_) (fun hc2 => ?_))
    ·
      (try simp only [nb, ne_eq] at hc2)
      obtain ⟨j, rfl⟩ : ∃ j, k = j + 1 := by
        cases k with
        | zero => simp only [bitI] at hc2; omega
        | succ j => exact ⟨j, rfl⟩
      have hhalf := bit_half j
      have hB : bitI (j + 1) = 2 ^ j := rfl
      have hp : (2 : Int) ^ (j + 1) = 2 ^ j * 2 := Int.pow_succ 2 j
      rw [hp] at hr1
      rw [rb_step n j r] at hrb
      have hp0 : (0 : Int) < 2 ^ j := Int.pow_pos (by decide)
      have hbj := tdiv_in (n := bitI (j + 1)) (d := 2) (by omega) (by decide)
      rw [hhalf] at hbj
      have m := mulb (a := r + bitI (j + 1)) (b := r + bitI (j + 1)) (A := 2147483648) (B := 2147483648) (by omega) (by omega) (by omega) (by omega)
      refine awp_skip ?_
      change Awp _ _ _ _ _
      refine awp_block ?_
      refine awp_seq ?_
      refine awp_seq ?_
      refine xa 9 ?_
      refine rg_q (q_m rfl) (rg_q (q_m rfl) ?_)
      refine rg_q (q_add rfl rfl (In64.mk (by (simp only; omega)) (by (simp only; omega)))) ?_
      refine rg_q (q_m rfl) (rg_q (q_m rfl) ?_)
      refine rg_q (q_add rfl rfl (In64.mk (by (simp only; omega)) (by (simp only; omega)))) ?_
      refine rg_q (q_mul rfl rfl (In64.mk (by (simp only; omega)) (by (simp only; omega)))) ?_
      refine rg_q (q_m rfl) (rg_q (q_leq rfl rfl) ?_)
      refine xc (awp_cond rfl (fun hc3 => ?_) (fun hc3 => ?_))
      ·
        (try simp only [nb, ne_eq] at hc3)
        have hrb2 : rb n 31 0 = rb n j (r + bitI (j + 1)) := by rw [hrb, if_pos (by rw [← hB]; exact hc3)]; rfl
        refine xa 4 ?_
        refine rg_q (q_m rfl) (rg_q (q_m rfl) ?_)
        refine rg_q (q_add rfl rfl (In64.mk (by (simp only; omega)) (by (simp only; omega)))) ?_
        refine rg_q (q_a rfl) ?_
        refine rn ?_
        change Awp _ _ _ _ _
        refine xa 3 ?_
        refine rg_q (q_m rfl) ?_
        refine rg_q (q_quo rfl rfl (by omega) (In64.mk (by (simp only; omega)) (by (simp only; omega)))) ?_
        refine rg_q (q_a rfl) ?_
        refine rn ?_
        refine ⟨(j, r + bitI (j + 1)), ⟨by simp only; omega, by simp only; omega, hrb2⟩, by simp only; omega, ?_⟩
        exact xh (ms := []) (by repeat (first | exact Out.head rfl rfl | (refine Out.put ?_ rfl))) ⟨(by rfl), (by (show T.i _ = T.i _; (rw [hhalf]))), trivial⟩ trivial
      ·
        (try simp only [nb, ne_eq] at hc3)
        have hrb2 : rb n 31 0 = rb n j r := by rw [hrb, if_neg (by rw [hB] at hc3; omega)]
        refine awp_skip ?_
        change Awp _ _ _ _ _
        refine xa 3 ?_
        refine rg_q (q_m rfl) ?_
        refine rg_q (q_quo rfl rfl (by omega) (In64.mk (by (simp only; omega)) (by (simp only; omega)))) ?_
        refine rg_q (q_a rfl) ?_
        refine rn ?_
        refine ⟨(j, r), ⟨by simp only; omega, by simp only; omega, hrb2⟩, by simp only; omega, ?_⟩
        exact xh (ms := []) (by repeat (first | exact Out.head rfl rfl | (refine Out.put ?_ rfl))) ⟨(by rfl), (by (show T.i _ = T.i _; (rw [hhalf]))), trivial⟩ trivial
    ·
      (try simp only [nb, ne_eq] at hc2)
      have hk0 : k = 0 := by
        cases k with
        | zero => rfl
        | succ j => have hp0 : (0 : Int) < 2 ^ j := Int.pow_pos (by decide)
                    have hB : bitI (j + 1) = 2 ^ j := rfl
                    (try simp only at hc2); omega
      subst hk0
      have hz : rootI n = r := hrb
      refine awp_exit ?_
      change Awp _ _ _ _ _
      refine awp_seq ?_
      refine xa 2 ?_
      refine rg_q (q_m rfl) (rg_q (q_a rfl) ?_)
      refine xc (awp_ret ?_)
      refine ⟨_, xk1, ?_⟩
      rw [hz]; rfl

def rupI (n : Int) : Int := if rootI n * rootI n < n then rootI n + 1 else rootI n
theorem bRootUp_p (n : Int) (h0 : 0 ≤ n) (h1 : n < 4611686018427387904) : PC Tryz.prog 308 [.v (.int .i64 (n))] (.v (.int .i64 (rupI n))) := by
 obtain ⟨r1, r2, r3, r4⟩ := root_spec h0 h1
 have r5 := Int.mul_nonneg r1 r1
 refine pc_of_awp Tryz.func308 rfl Tryz.ntmps308 (rs := [.tmp 2]) Tryz.results308 (by simp) fun w0 => ?_
 refine awp_seq ?_
 refine xa 1 ?_
 refine rg_q (q_a rfl) ?_
 refine rs (xa 3 ?_)
 refine rg_q (q_m rfl) ?_
 refine rg_q (q_call en307 (.cons rfl .nil) rfl (bRoot_p _ (by omega) (by omega))) ?_
 refine rg_q (q_a rfl) ?_
 refine rs (awp_seq ?_)
 refine xa 5 ?_
 refine rg_q (q_m rfl) (rg_q (q_m rfl) ?_)
 refine rg_q (q_mul rfl rfl xi) ?_
 refine rg_q (q_m rfl) (rg_q (q_lss rfl rfl) ?_)
 refine xc (awp_cond rfl (fun hc2 => ?_) (fun hc2 => ?_))
 ·
  (try simp only [nb, ne_eq] at hc2)
  have hz : rupI n = rootI n + 1 := by unfold rupI; rw [if_pos hc2]
  refine xa 3 ?_
  refine rg_q (q_m rfl) ?_
  refine rg_q (q_add rfl rfl xi) ?_
  refine rg_q (q_a rfl) ?_
  refine rs (xa 2 ?_)
  refine rg_q (q_m rfl) (rg_q (q_a rfl) ?_)
  refine xc (awp_ret ?_)
  refine ⟨_, xk1, ?_⟩
  rw [hz]; rfl
 ·
  (try simp only [nb, ne_eq] at hc2)
  have hz : rupI n = rootI n := by unfold rupI; rw [if_neg (by omega)]
  refine awp_skip ?_
  change Awp _ _ _ _ _
  refine awp_seq ?_
  refine xa 2 ?_
  refine rg_q (q_m rfl) (rg_q (q_a rfl) ?_)
  refine xc (awp_ret ?_)
  refine ⟨_, xk1, ?_⟩
  rw [hz]; rfl
theorem lengthOf_p (x z : Int) (h1 : -200000 ≤ x) (h2 : x ≤ 200000) (h3 : -200000 ≤ z) (h4 : z ≤ 200000) : PC Tryz.prog 300 [.v (.int .i64 (x)), .v (.int .i64 (z))] (.agg [.v (.int .i64 ((lenI x z).1)), .v (.int .i64 ((lenI x z).2))]) := by
 obtain ⟨b1, b2, b3, b4⟩ := len_bounds (x := x) (z := z) h1 h2 h3 h4
 refine pc_of_awp Tryz.func300 rfl Tryz.ntmps300 (rs := [.cell 4 56]) Tryz.results300 (by simp) fun w0 => ?_
 refine awp_seq ?_
 refine xa 0 ?_
 refine rg_nil ?_
 refine aops_alloc zr56 rfl rfl rfl ?_
 refine aops_nil (xq (xa 9 ?_))
 refine rg_q (q_m rfl) (rg_q (q_m rfl) ?_)
 refine rg_q (q_mul rfl rfl xi) ?_
 refine rg_q (q_m rfl) (rg_q (q_m rfl) ?_)
 refine rg_q (q_mul rfl rfl xi) ?_
 refine rg_q (q_add rfl rfl xi) ?_
 refine rg_q (q_mul rfl rfl xi) ?_
 refine rg_q (q_a rfl) ?_
 refine rs (xa 5 ?_)
 refine rg_q (q_m rfl) ?_
 refine rg_q (q_call en307 (.cons rfl .nil) rfl (bRoot_p _ (by omega) (by omega))) ?_
 refine rg_q (q_m rfl) ?_
 refine rg_q (q_call en308 (.cons rfl .nil) rfl (bRootUp_p _ (by omega) (by omega))) ?_
 refine rg_q (q_build (cs := [_, _]) pl56 zr56 rfl (.cons rfl (by exact .inl rfl) (.cons rfl (by exact .inl rfl) .nil)) ⟨⟨rfl, by decide⟩, ⟨rfl, by decide⟩, trivial⟩ rfl) ?_
 refine rg_nil ?_
 refine aops_store sz56 rfl rfl (by exact .inr ⟨_, rfl⟩) rfl rfl (by decide) rfl ?_
 refine aops_nil ?_
 change Awp _ _ _ _ _
 refine awp_ret ?_
 refine ⟨_, (.cons (.cellA rfl rfl sz56 rfl) .nil), ?_⟩
 rfl
theorem lasting_p (r : Rg) (v : Int) (hr : LenIn r) (hv : 500 ≤ v) : PC Tryz.prog 299 [.agg [.v (.int .i64 ((r).1)), .v (.int .i64 ((r).2))], .v (.int .i64 (v))] (.agg [.v (.int .i64 ((timI r v).1)), .v (.int .i64 ((timI r v).2))]) := by
 obtain ⟨a, b, c, d, e⟩ := hr
 refine pc_of_awp Tryz.func299 rfl Tryz.ntmps299 (rs := [.cell 4 56]) Tryz.results299 (by simp) fun w0 => ?_
 refine awp_seq ?_
 refine xa 1 ?_
 refine rg_q (q_box rfl (by exact .inr ⟨_, rfl⟩)) ?_
 refine rg_nil ?_
 refine aops_alloc zr56 rfl rfl rfl ?_
 refine aops_nil (xq (xa 11 ?_))
 refine rg_q (q_fieldAddr fld56_0 rfl) (rg_q (q_load sz3 rfl rfl) ?_)
 refine rg_q (q_mul rfl rfl xi) ?_
 refine rg_q (q_m rfl) ?_
 refine rg_q (q_call en273 (.cons rfl (.cons rfl .nil)) rfl (Floor_p _ _ ⟨by omega, by omega⟩ (by omega))) ?_
 refine rg_q (q_fieldAddr fld56_1 rfl) (rg_q (q_load sz3 rfl rfl) ?_)
 refine rg_q (q_mul rfl rfl xi) ?_
 refine rg_q (q_m rfl) ?_
 refine rg_q (q_call en287 (.cons rfl (.cons rfl .nil)) rfl (Ceil_p _ _ ⟨by omega, by omega⟩ (by omega))) ?_
 refine rg_q (q_build (cs := [_, _]) pl56 zr56 rfl (.cons rfl (by exact .inl rfl) (.cons rfl (by exact .inl rfl) .nil)) ⟨⟨rfl, by decide⟩, ⟨rfl, by decide⟩, trivial⟩ rfl) ?_
 refine rg_nil ?_
 refine aops_store sz56 rfl rfl (by exact .inr ⟨_, rfl⟩) rfl rfl (by decide) rfl ?_
 refine aops_nil ?_
 change Awp _ _ _ _ _
 refine awp_ret ?_
 refine ⟨_, (.cons (.cellA rfl rfl sz56 rfl) .nil), ?_⟩
 rfl
theorem sign_p (n : Int) : PC Tryz.prog 305 [.v (.int .i64 (n))] (.v (.int .i64 (sgn1 n))) := by
 refine pc_of_awp Tryz.func305 rfl Tryz.ntmps305 (rs := [.tmp 2]) Tryz.results305 (by simp) fun w0 => ?_
 refine awp_seq ?_
 refine xa 1 ?_
 refine rg_q (q_a rfl) ?_
 refine rs (awp_seq ?_)
 refine xa 2 ?_
 refine rg_q (q_m rfl) (rg_q (q_gtr rfl rfl) ?_)
 refine xc (awp_cond rfl (fun hc1 => ?_) (fun hc1 => ?_))
 ·
  (try simp only [nb, ne_eq] at hc1)
  have hz : sgn1 n = 1 := sgn1_pos hc1
  refine awp_seq ?_
  refine xa 1 ?_
  refine rg_q (q_a rfl) ?_
  refine xc (awp_ret ?_)
  refine ⟨_, xk1, ?_⟩
  rw [hz]; rfl
 ·
  (try simp only [nb, ne_eq] at hc1)
  refine awp_skip ?_
  change Awp _ _ _ _ _
  refine awp_seq ?_
  refine awp_seq ?_
  refine xa 2 ?_
  refine rg_q (q_m rfl) (rg_q (q_lss rfl rfl) ?_)
  refine xc (awp_cond rfl (fun hc3 => ?_) (fun hc3 => ?_))
  ·
   (try simp only [nb, ne_eq] at hc3)
   have hz : sgn1 n = -1 := sgn1_neg hc3
   refine awp_seq ?_
   refine xa 1 ?_
   refine rg_q (q_a rfl) ?_
   refine xc (awp_ret ?_)
   refine ⟨_, xk1, ?_⟩
   rw [hz]; rfl
  ·
   (try simp only [nb, ne_eq] at hc3)
   have hz : sgn1 n = 0 := by unfold sgn1; rw [if_neg (by omega), if_neg (by omega)]
   refine awp_skip ?_
   change Awp _ _ _ _ _
   refine awp_seq ?_
   refine xa 1 ?_
   refine rg_q (q_a rfl) ?_
   refine xc (awp_ret ?_)
   refine ⟨_, xk1, ?_⟩
   rw [hz]; rfl

theorem sgn1_in (n : Int) : -1 ≤ sgn1 n ∧ sgn1 n ≤ 1 := by unfold sgn1; split <;> (try split) <;> omega
theorem cmp_in (n d m k : Int) : -1 ≤ cmpI n d m k ∧ cmpI n d m k ≤ 1 := by unfold cmpI; split <;> (try split) <;> omega
theorem rs_bounds {t v h : Int} (t1 : -200000 ≤ t) (t2 : t ≤ 200000) (v1 : 500 ≤ v) (v2 : v ≤ 10000) (h1 : 1 ≤ h) (h2 : h ≤ 100000) :
    (0 ≤ t * t ∧ t * t ≤ 40000000000) ∧ (0 ≤ t * t * v ∧ t * t * v ≤ 400000000000000) ∧ (0 ≤ t * t * v * v ∧ t * t * v * v ≤ 4000000000000000000) ∧ (1 ≤ h * h ∧ h * h ≤ 10000000000) := by
  obtain ⟨b1, b2, b3, b4⟩ := len_bounds (x := t) (z := h) t1 t2 (by omega) (by omega)
  have m2 := mulb (a := t * t) (b := v) (A := 40000000000) (B := 10000) (by omega) (by omega) (by omega) (by omega)
  have m3 := mulb (a := t * t * v) (b := v) (A := 400000000000000) (B := 10000) (by omega) (by omega) (by omega) (by omega)
  have m4 := mulb (a := h) (b := h) (A := 100000) (B := 100000) (by omega) (by omega) (by omega) (by omega)
  have n2 := Int.mul_nonneg b1 (show 0 ≤ v by omega)
  have n3 := Int.mul_nonneg n2 (show 0 ≤ v by omega)
  have n4 := Int.mul_pos (show 0 < h by omega) (show 0 < h by omega)
  omega
theorem xslope_p (x : Crs) (t : Int) (hx : CrsOk x) (h1 : loX x ≤ t) (h2 : t ≤ hiX x) : PC Tryz.prog 298 [.agg (crsC x), .v (.int .i64 (t))] (.v (.int .i64 (slopeI x t))) := by
 have hu : slopeI x t = rslope x t := (rslope_eq hx h1 h2).symm
 unfold rslope at hu
 obtain ⟨a1, a2, b1, b2, c1, c2, d1, d2, e1, e2, f1, f2⟩ := hx
 unfold loX at h1
 unfold hiX at h2
 obtain ⟨⟨p1, p2⟩, ⟨p3, p4⟩, ⟨p5, p6⟩, p7, p8⟩ := rs_bounds (t := t - x.x1) (v := x.v2) (h := x.h1) (by omega) (by omega) f1 f2 c1 c2
 obtain ⟨⟨q1, q2⟩, ⟨q3, q4⟩, ⟨q5, q6⟩, q7, q8⟩ := rs_bounds (t := x.x2 - t) (v := x.v1) (h := x.h2) (by omega) (by omega) e1 e2 d1 d2
 have s1 := sgn1_in (t - x.x1)
 have s2 := sgn1_in (x.x2 - t)
 have hci := cmp_in ((t - x.x1) * (t - x.x1) * x.v2 * x.v2) ((t - x.x1) * (t - x.x1) + x.h1 * x.h1) ((x.x2 - t) * (x.x2 - t) * x.v1 * x.v1) ((x.x2 - t) * (x.x2 - t) + x.h2 * x.h2)
 refine pc_of_awp Tryz.func298 rfl Tryz.ntmps298 (rs := [.tmp 4]) Tryz.results298 (by simp) fun w0 => ?_
 refine awp_seq ?_
 refine xa 2 ?_
 refine rg_q (q_box rfl (by exact .inr ⟨_, rfl⟩)) ?_
 refine rg_q (q_a rfl) ?_
 refine rs (xa 10 ?_)
 refine rg_q (q_m rfl) (rg_q (q_fieldAddr fld364_0 rfl) (rg_q (q_load sz3 rfl rfl) ?_))
 refine rg_q (q_sub rfl rfl xi) ?_
 refine rg_q (q_fieldAddr fld364_3 rfl) (rg_q (q_load sz3 rfl rfl) (rg_q (q_m rfl) ?_))
 refine rg_q (q_sub rfl rfl xi) ?_
 refine rg_q (q_a rfl) (rg_q (q_a rfl) ?_)
 refine rs (xa 6 ?_)
 refine rg_q (q_m rfl) ?_
 refine rg_q (q_call en305 (.cons rfl .nil) rfl (sign_p _)) ?_
 refine rg_q (q_m rfl) ?_
 refine rg_q (q_call en305 (.cons rfl .nil) rfl (sign_p _)) ?_
 refine rg_q (q_add rfl rfl xi) ?_
 refine rg_q (q_a rfl) ?_
 refine rs (awp_seq ?_)
 refine xa 6 ?_
 refine rg_q (q_m rfl) (rg_q (q_eql rfl rfl) (rg_q (q_m rfl) ?_))
 refine rg_g rfl rfl (fun hG => (q_m rfl)) ?_
 refine rg_g rfl rfl (fun hG => (q_eql rfl rfl)) ?_
 refine rg_pick rfl rfl rfl rfl rfl rfl ?_
 refine xc (awp_cond rfl (fun hc3 => ?_) (fun hc3 => ?_))
 ·
  (try simp only [nb, ne_eq] at hc3)
  rw [if_pos hc3] at hu
  refine awp_seq ?_
  refine xa 7 ?_
  refine rg_q (q_m rfl) ?_
  refine rg_q (q_call en305 (.cons rfl .nil) rfl (sign_p _)) ?_
  refine rg_q (q_m rfl) ?_
  refine rg_q (q_call en305 (.cons rfl .nil) rfl (sign_p _)) ?_
  refine rg_q (q_sub rfl rfl xi) ?_
  refine rg_q (q_call en305 (.cons rfl .nil) rfl (sign_p _)) ?_
  refine rg_q (q_a rfl) ?_
  refine xc (awp_ret ?_)
  refine ⟨_, xk1, ?_⟩
  rw [hu]; rfl
 ·
  (try simp only [nb, ne_eq] at hc3)
  rw [if_neg (by omega)] at hu
  refine awp_skip ?_
  change Awp _ _ _ _ _
  refine awp_seq ?_
  refine xa 38 ?_
  refine rg_q (q_m rfl) (rg_q (q_m rfl) ?_)
  refine rg_q (q_mul rfl rfl xi) ?_
  refine rg_q (q_fieldAddr fld364_5 rfl) (rg_q (q_load sz3 rfl rfl) ?_)
  refine rg_q (q_mul rfl rfl xi) ?_
  refine rg_q (q_fieldAddr fld364_5 rfl) (rg_q (q_load sz3 rfl rfl) ?_)
  refine rg_q (q_mul rfl rfl xi) ?_
  refine rg_q (q_m rfl) (rg_q (q_m rfl) ?_)
  refine rg_q (q_mul rfl rfl xi) ?_
  refine rg_q (q_fieldAddr fld364_1 rfl) (rg_q (q_load sz3 rfl rfl) (rg_q (q_fieldAddr fld364_1 rfl) (rg_q (q_load sz3 rfl rfl) ?_)))
  refine rg_q (q_mul rfl rfl xi) ?_
  refine rg_q (q_add rfl rfl xi) ?_
  refine rg_q (q_m rfl) (rg_q (q_m rfl) ?_)
  refine rg_q (q_mul rfl rfl xi) ?_
  refine rg_q (q_fieldAddr fld364_2 rfl) (rg_q (q_load sz3 rfl rfl) ?_)
  refine rg_q (q_mul rfl rfl xi) ?_
  refine rg_q (q_fieldAddr fld364_2 rfl) (rg_q (q_load sz3 rfl rfl) ?_)
  refine rg_q (q_mul rfl rfl xi) ?_
  refine rg_q (q_m rfl) (rg_q (q_m rfl) ?_)
  refine rg_q (q_mul rfl rfl xi) ?_
  refine rg_q (q_fieldAddr fld364_4 rfl) (rg_q (q_load sz3 rfl rfl) (rg_q (q_fieldAddr fld364_4 rfl) (rg_q (q_load sz3 rfl rfl) ?_)))
  refine rg_q (q_mul rfl rfl xi) ?_
  refine rg_q (q_add rfl rfl xi) ?_
  refine rg_q (q_call en306 (.cons rfl (.cons rfl (.cons rfl (.cons rfl .nil)))) rfl (bcompare_p _ _ _ _ ⟨by omega, by omega⟩ ⟨by omega, by omega, by omega⟩ ⟨by omega, by omega⟩ ⟨by omega, by omega, by omega⟩)) ?_
  refine rg_q (q_a rfl) ?_
  refine rs (awp_seq ?_)
  refine xa 2 ?_
  refine rg_q (q_m rfl) (rg_q (q_lss rfl rfl) ?_)
  refine xc (awp_cond rfl (fun hc6 => ?_) (fun hc6 => ?_))
  ·
   (try simp only [nb, ne_eq] at hc6)
   rw [if_pos hc6] at hu
   refine awp_seq ?_
   refine xa 3 ?_
   refine rg_q (q_m rfl) ?_
   refine rg_q (q_neg rfl xi) ?_
   refine rg_q (q_a rfl) ?_
   refine xc (awp_ret ?_)
   refine ⟨_, xk1, ?_⟩
   rw [hu]; rfl
  ·
   (try simp only [nb, ne_eq] at hc6)
   rw [if_neg (by omega)] at hu
   refine awp_skip ?_
   change Awp _ _ _ _ _
   refine awp_seq ?_
   refine xa 2 ?_
   refine rg_q (q_m rfl) (rg_q (q_a rfl) ?_)
   refine xc (awp_ret ?_)
   refine ⟨_, xk1, ?_⟩
   rw [hu]; rfl
theorem xtimeAt_p (x : Crs) (t : Int) (hx : CrsOk x) (h1 : -100000 ≤ t) (h2 : t ≤ 100000) : PC Tryz.prog 285 [.agg (crsC x), .v (.int .i64 (t))] (.agg [.v (.int .i64 ((timeAtI x t).1)), .v (.int .i64 ((timeAtI x t).2))]) := by
 obtain ⟨a1, a2, b1, b2, c1, c2, d1, d2, e1, e2, f1, f2⟩ := hx
 have l1 := len_in (x := t - x.x1) (z := x.h1) (by omega) (by omega) (by omega) (by omega)
 have l2 := len_in (x := x.x2 - t) (z := x.h2) (by omega) (by omega) (by omega) (by omega)
 obtain ⟨p1, p2, p3, p4⟩ := tim_in l1 e1
 obtain ⟨q1, q2, q3, q4⟩ := tim_in l2 f1
 refine pc_of_awpN Tryz.func285 rfl Tryz.ntmps285 (rs := [.cell 4 56]) Tryz.results285 (by simp) fun w0 hmine hrnd hpn => ?_
 refine awp_seq ?_
 refine xa 1 ?_
 refine rg_q (q_box rfl (by exact .inr ⟨_, rfl⟩)) ?_
 refine rg_nil ?_
 refine aops_alloc zr56 rfl rfl rfl ?_
 refine aops_nil (xq (awp_regionM 24 [none, none, none, none, none, none, none, none, none, none, none, none, none, none, none, none, none, none, none, none, some 5, some 6, some 5, some 6] mixed (by kernel_rfl) ?_))
 refine rgm_q rfl (q_m rfl) ?_
 refine rgm_q rfl (q_fieldAddr fld364_0 rfl) ?_
 refine rgm_q rfl (q_load sz3 rfl rfl) ?_
 refine rgm_q rfl (q_sub rfl rfl xi) ?_
 refine rgm_q rfl (q_fieldAddr fld364_1 rfl) ?_
 refine rgm_q rfl (q_load sz3 rfl rfl) ?_
 refine rgm_q rfl (q_call en300 (.cons rfl (.cons rfl .nil)) rfl (lengthOf_p (t - x.x1) x.h1 (by omega) (by omega) (by omega) (by omega))) ?_
 refine rgm_q rfl (q_fieldAddr fld364_2 rfl) ?_
 refine rgm_q rfl (q_load sz3 rfl rfl) ?_
 refine rgm_q rfl (q_call en299 (.cons rfl (.cons rfl .nil)) rfl (lasting_p (lenI (t - x.x1) x.h1) x.v1 l1 e1)) ?_
 refine rgm_q rfl (q_fieldAddr fld364_3 rfl) ?_
 refine rgm_q rfl (q_load sz3 rfl rfl) ?_
 refine rgm_q rfl (q_m rfl) ?_
 refine rgm_q rfl (q_sub rfl rfl xi) ?_
 refine rgm_q rfl (q_fieldAddr fld364_4 rfl) ?_
 refine rgm_q rfl (q_load sz3 rfl rfl) ?_
 refine rgm_q rfl (q_call en300 (.cons rfl (.cons rfl .nil)) rfl (lengthOf_p (x.x2 - t) x.h2 (by omega) (by omega) (by omega) (by omega))) ?_
 refine rgm_q rfl (q_fieldAddr fld364_5 rfl) ?_
 refine rgm_q rfl (q_load sz3 rfl rfl) ?_
 refine rgm_q rfl (q_call en299 (.cons rfl (.cons rfl .nil)) rfl (lasting_p (lenI (x.x2 - t) x.h2) x.v2 l2 f1)) ?_
 refine rgm_m (k := 5) rfl rfl (by rfl) (m_alloc zr56 rfl rfl) ?_
 refine rgm_m (k := 6) rfl rfl (by rfl) (m_alloc zr56 rfl rfl) ?_
 refine rgm_m (k := 5) rfl rfl (by rfl) (m_store sz56 rfl rfl (by exact .inr ⟨_, rfl⟩) rfl rfl (by decide) rfl) ?_
 refine rgm_m (k := 6) rfl rfl (by rfl) (m_store sz56 rfl rfl (by exact .inr ⟨_, rfl⟩) rfl rfl (by decide) rfl) ?_
 refine rgm_nil (aops_nil ?_)
 change Awp _ _ _ _ _
 refine awp_seq ?_
 refine xa 11 ?_
 refine rg_q (q_fieldAddr_ref fld56_0 rfl) (rg_q (q_load_ref sz3 rfl rfl rfl) (rg_q (q_fieldAddr_ref fld56_0 rfl) (rg_q (q_load_ref sz3 rfl rfl rfl) ?_)))
 refine rg_q (q_add rfl rfl xi) ?_
 refine rg_q (q_fieldAddr_ref fld56_1 rfl) (rg_q (q_load_ref sz3 rfl rfl rfl) (rg_q (q_fieldAddr_ref fld56_1 rfl) (rg_q (q_load_ref sz3 rfl rfl rfl) ?_)))
 refine rg_q (q_add rfl rfl xi) ?_
 refine rg_q (q_build (cs := [_, _]) pl56 zr56 rfl (.cons rfl (by exact .inl rfl) (.cons rfl (by exact .inl rfl) .nil)) ⟨⟨rfl, by decide⟩, ⟨rfl, by decide⟩, trivial⟩ rfl) ?_
 refine rg_nil ?_
 refine aops_store sz56 rfl rfl (by exact .inr ⟨_, rfl⟩) rfl rfl (by decide) rfl ?_
 refine aops_nil ?_
 change Awp _ _ _ _ _
 refine awp_ret ?_
 refine ⟨_, (.cons (.cellA rfl rfl sz56 rfl) .nil), ?_⟩
 rfl
theorem xis_p (x : Crs) (t : Int) : PC Tryz.prog 286 [.agg (crsC x), .v (.int .i64 (t))] (.v (.bool (inR (loX x) t (hiX x)))) := by
 refine pc_of_awp Tryz.func286 rfl Tryz.ntmps286 (rs := [.tmp 4]) Tryz.results286 (by simp) fun w0 => ?_
 refine awp_seq ?_
 refine xa 2 ?_
 refine rg_q (q_box rfl (by exact .inr ⟨_, rfl⟩)) ?_
 refine rg_q (q_a rfl) ?_
 refine rs (xa 13 ?_)
 refine rg_q (q_m rfl) (rg_q (q_fieldAddr fld364_0 rfl) (rg_q (q_load sz3 rfl rfl) (rg_q (q_fieldAddr fld364_3 rfl) (rg_q (q_load sz3 rfl rfl) ?_))))
 refine rg_q (q_min rfl rfl) ?_
 refine rg_q (q_fieldAddr fld364_0 rfl) (rg_q (q_load sz3 rfl rfl) (rg_q (q_fieldAddr fld364_3 rfl) (rg_q (q_load sz3 rfl rfl) ?_)))
 refine rg_q (q_max rfl rfl) ?_
 refine rg_q (q_call en31 (.cons rfl (.cons rfl (.cons rfl .nil))) rfl (within4_p _ _ _)) ?_
 refine rg_q (q_a rfl) ?_
 refine xc (awp_ret ?_)
 refine ⟨_, xk1, ?_⟩
 rfl
theorem xcrossing_p (x : Crs) (hx : CrsOk x) : PC Tryz.prog 284 [.agg (crsC x)] (.v (.int .i64 (crossI x))) := by
 have hx0 := hx
 obtain ⟨a1, a2, b1, b2, c1, c2, d1, d2, e1, e2, f1, f2⟩ := hx0
 have hl : -100000 ≤ loX x ∧ loX x ≤ hiX x ∧ hiX x ≤ 100000 := by unfold loX hiX; omega
 have hlo := slope_lo hx
 refine pc_of_awp Tryz.func284 rfl Tryz.ntmps284 (rs := [.tmp 2]) Tryz.results284 (by simp) fun w0 => ?_
 refine awp_seq ?_
 refine xa 2 ?_
 refine rg_q (q_box rfl (by exact .inr ⟨_, rfl⟩)) ?_
 refine rg_q (q_a rfl) ?_
 refine rs (xa 12 ?_)
 refine rg_q (q_fieldAddr fld364_0 rfl) (rg_q (q_load sz3 rfl rfl) (rg_q (q_fieldAddr fld364_3 rfl) (rg_q (q_load sz3 rfl rfl) ?_)))
 refine rg_q (q_min rfl rfl) ?_
 refine rg_q (q_fieldAddr fld364_0 rfl) (rg_q (q_load sz3 rfl rfl) (rg_q (q_fieldAddr fld364_3 rfl) (rg_q (q_load sz3 rfl rfl) ?_)))
 refine rg_q (q_max rfl rfl) ?_
 refine rg_q (q_a rfl) (rg_q (q_a rfl) ?_)
 refine rs (awp_seq ?_)
 refine xa 4 ?_
 refine rg_q (q_loadA (ds := [_, _, _, _, _, _]) sz364 rfl rfl rfl) ?_
 refine rg_q (q_m rfl) ?_
 refine rg_q (q_call en298 (.cons rfl (.cons rfl .nil)) rfl (xslope_p x (hiX x) hx (by omega) (by omega))) ?_
 refine rg_q (q_leq rfl rfl) ?_
 refine xc (awp_cond rfl (fun hc2 => ?_) (fun hc2 => ?_))
 ·
  (try simp only [nb, ne_eq] at hc2)
  have hz : crossI x = hiX x := (cross_unique hx (by omega) (by omega) (by omega) (.inl rfl)).symm
  refine awp_seq ?_
  refine xa 2 ?_
  refine rg_q (q_m rfl) (rg_q (q_a rfl) ?_)
  refine xc (awp_ret ?_)
  refine ⟨_, xk1, ?_⟩
  rw [hz]; rfl
 ·
  (try simp only [nb, ne_eq] at hc2)
  have hlh : loX x < hiX x := by
   rcases Int.lt_or_eq_of_le hl.2.1 with q | q
   · exact q
   · rw [q] at hlo; omega
  refine awp_skip ?_
  change Awp _ _ _ _ _
  refine awp_seq ?_
  refine awp_block ?_
  refine awp_loopH [3, 4, 5, 21, 22, 23, 24, 25, 26, 27, 28, 29, 30, 31, 32, 33, 34] [] (α := Int × Int) (fun y => [(3, T.i y.1), (4, T.i y.2)]) (fun y => []) (fun y => loX x ≤ y.1 ∧ y.1 < y.2 ∧ y.2 ≤ hiX x ∧ ¬ 0 < slopeI x y.1 ∧ 0 < slopeI x y.2) (fun y => (y.2 - y.1).toNat) (loX x, hiX x) ⟨Int.le_refl _, hlh, Int.le_refl _, hlo, by simp only; omega⟩ ?_ ?_
  · exact xh (ms := []) (by repeat (exact Out.refl _)) ⟨(by rfl), (by rfl), trivial⟩ trivial
  ·
   intro y ⟨k1, k2, k3, k4, k5⟩
   refine awp_seq ?_
   refine awp_seq ?_
   refine xa 4 ?_
   refine rg_q (q_m rfl) (rg_q (q_m rfl) ?_)
   refine rg_q (q_sub rfl rfl xi) ?_
   refine rg_q (q_gtr rfl rfl) ?_
   refine xc (awp_cond rfl (fun hc4 => ?_) (fun hc4 => ?_))
   ·
    (try simp only [nb, ne_eq] at hc4)
    have hmid : y.1 < (y.1 + y.2) / 2 ∧ (y.1 + y.2) / 2 < y.2 := by omega
    refine awp_skip ?_
    change Awp _ _ _ _ _
    refine awp_block ?_
    refine awp_seq ?_
    refine xa 5 ?_
    refine rg_q (q_m rfl) (rg_q (q_m rfl) ?_)
    refine rg_q (q_add rfl rfl xi) ?_
    refine rg_q (q_call en273 (.cons rfl (.cons rfl .nil)) rfl (Floor_p _ _ ⟨by omega, by omega⟩ (by omega))) ?_
    refine rg_q (q_a rfl) ?_
    refine rs (xa 4 ?_)
    refine rg_q (q_loadA (ds := [_, _, _, _, _, _]) sz364 rfl rfl rfl) ?_
    refine rg_q (q_m rfl) ?_
    refine rg_q (q_call en298 (.cons rfl (.cons rfl .nil)) rfl (xslope_p x ((y.1 + y.2) / 2) hx (by omega) (by omega))) ?_
    refine rg_q (q_leq rfl rfl) ?_
    refine xc (awp_cond rfl (fun hc6 => ?_) (fun hc6 => ?_))
    ·
     (try simp only [nb, ne_eq] at hc6)
     refine xa 2 ?_
     refine rg_q (q_m rfl) (rg_q (q_a rfl) ?_)
     refine rn ?_
     refine ⟨((y.1 + y.2) / 2, y.2), ⟨by simp only; omega, hmid.2, k3, by simp only; omega, k5⟩, by simp only; omega, ?_⟩
     exact xh (ms := []) (by repeat (first | exact Out.head rfl rfl | (refine Out.put ?_ rfl))) ⟨(by rfl), (by rfl), trivial⟩ trivial
    ·
     (try simp only [nb, ne_eq] at hc6)
     refine xa 2 ?_
     refine rg_q (q_m rfl) (rg_q (q_a rfl) ?_)
     refine rn ?_
     refine ⟨(y.1, (y.1 + y.2) / 2), ⟨k1, hmid.1, by simp only; omega, k4, by simp only; omega⟩, by simp only; omega, ?_⟩
     exact xh (ms := []) (by repeat (first | exact Out.head rfl rfl | (refine Out.put ?_ rfl))) ⟨(by rfl), (by rfl), trivial⟩ trivial
   ·
    (try simp only [nb, ne_eq] at hc4)
    have hy12 : y.2 = y.1 + 1 := by omega
    have hz : crossI x = y.1 := (cross_unique hx k1 (by omega) k4 (.inr (by rw [← hy12]; exact k5))).symm
    refine awp_exit ?_
    change Awp _ _ _ _ _
    refine awp_seq ?_
    refine xa 2 ?_
    refine rg_q (q_m rfl) (rg_q (q_a rfl) ?_)
    refine xc (awp_ret ?_)
    refine ⟨_, xk1, ?_⟩
    rw [hz]; rfl
theorem xleast_p (x : Crs) (hx : CrsOk x) : PC Tryz.prog 271 [.agg (crsC x)] (.agg [.v (.int .i64 ((leastI x).1)), .v (.int .i64 ((leastI x).2))]) := by
 have hs := cross_spec hx
 have hx0 := hx
 obtain ⟨a1, a2, b1, b2, c1, c2, d1, d2, e1, e2, f1, f2⟩ := hx0
 have hl : -100000 ≤ loX x ∧ hiX x ≤ 100000 := by unfold loX hiX; omega
 obtain ⟨p1, p2, p3, p4⟩ := timeAt_in (t := crossI x) hx (by omega) (by omega)
 have m1 := mulb (a := x.v1) (b := x.h1) (A := 10000) (B := 100000) (by omega) (by omega) (by omega) (by omega)
 have m2 := mulb (a := x.v2) (b := x.h2) (A := 10000) (B := 100000) (by omega) (by omega) (by omega) (by omega)
 have n1 := Int.mul_pos (show 0 < x.v1 by omega) (show 0 < x.h1 by omega)
 have n2 := Int.mul_pos (show 0 < x.v2 by omega) (show 0 < x.h2 by omega)
 have u1 := up_in (n := 10000000) (d := x.v1 * x.h1) (by omega) n1
 have u2 := up_in (n := 10000000) (d := x.v2 * x.h2) (by omega) n2
 refine pc_of_awpN Tryz.func271 rfl Tryz.ntmps271 (rs := [.cell 2 56]) Tryz.results271 (by simp) fun w0 hmine hrnd hpn => ?_
 refine awp_seq ?_
 refine xa 1 ?_
 refine rg_q (q_box rfl (by exact .inr ⟨_, rfl⟩)) ?_
 refine rg_nil ?_
 refine aops_alloc zr56 rfl rfl rfl ?_
 refine aops_nil (xq (xa 3 ?_))
 refine rg_q (q_loadA (ds := [_, _, _, _, _, _]) sz364 rfl rfl rfl) ?_
 refine rg_q (q_call en284 (.cons rfl .nil) rfl (xcrossing_p _ hx)) ?_
 refine rg_q (q_a rfl) ?_
 refine rs (xa 3 ?_)
 refine rg_q (q_loadA (ds := [_, _, _, _, _, _]) sz364 rfl rfl rfl) ?_
 refine rg_q (q_m rfl) ?_
 refine rg_q (q_call en285 (.cons rfl (.cons rfl .nil)) rfl (xtimeAt_p x (crossI x) hx (by omega) (by omega))) ?_
 refine rg_nil ?_
 refine aops_alloc zr56 rfl rfl rfl ?_
 refine aops_store sz56 rfl rfl (by exact .inr ⟨_, rfl⟩) rfl rfl (by decide) rfl ?_
 refine aops_nil (xq (awp_seq ?_))
 refine xa 4 ?_
 refine rg_q (q_loadA (ds := [_, _, _, _, _, _]) sz364 rfl rfl rfl) ?_
 refine rg_q (q_m rfl) ?_
 refine rg_q (q_add rfl rfl xi) ?_
 refine rg_q (q_call en286 (.cons rfl (.cons rfl .nil)) rfl (xis_p _ _)) ?_
 refine xc (awp_cond rfl (fun hc3 => ?_) (fun hc3 => ?_))
 ·
  (try simp only [nb, ne_eq] at hc3)
  have hin : loX x ≤ crossI x + 1 ∧ crossI x + 1 ≤ hiX x := by simpa [inR] using hc3
  obtain ⟨q1, q2, q3, q4⟩ := timeAt_in (t := crossI x + 1) hx (by omega) (by omega)
  have h0 : least0 x = (min (timeAtI x (crossI x)).1 (timeAtI x (crossI x + 1)).1, min (timeAtI x (crossI x)).2 (timeAtI x (crossI x + 1)).2) := by unfold least0; rw [if_pos hc3]
  refine awp_seq ?_
  refine xa 4 ?_
  refine rg_q (q_loadA (ds := [_, _, _, _, _, _]) sz364 rfl rfl rfl) ?_
  refine rg_q (q_m rfl) ?_
  refine rg_q (q_add rfl rfl xi) ?_
  refine rg_q (q_call en285 (.cons rfl (.cons rfl .nil)) rfl (xtimeAt_p x (crossI x + 1) hx (by omega) (by omega))) ?_
  refine rg_nil ?_
  refine aops_alloc zr56 rfl rfl rfl ?_
  refine aops_store sz56 rfl rfl (by exact .inr ⟨_, rfl⟩) rfl rfl (by decide) rfl ?_
  refine aops_nil ?_
  change Awp _ _ _ _ _
  refine xa 11 ?_
  refine rg_q (q_fieldAddr_ref fld56_0 rfl) (rg_q (q_load_ref sz3 rfl rfl rfl) (rg_q (q_fieldAddr_ref fld56_0 rfl) (rg_q (q_load_ref sz3 rfl rfl rfl) ?_)))
  refine rg_q (q_min rfl rfl) ?_
  refine rg_q (q_fieldAddr_ref fld56_1 rfl) (rg_q (q_load_ref sz3 rfl rfl rfl) (rg_q (q_fieldAddr_ref fld56_1 rfl) (rg_q (q_load_ref sz3 rfl rfl rfl) ?_)))
  refine rg_q (q_min rfl rfl) ?_
  refine rg_q (q_build (cs := [_, _]) pl56 zr56 rfl (.cons rfl (by exact .inl rfl) (.cons rfl (by exact .inl rfl) .nil)) ⟨⟨rfl, by decide⟩, ⟨rfl, by decide⟩, trivial⟩ rfl) ?_
  refine rg_nil ?_
  refine aops_store sz56 rfl rfl (by exact .inr ⟨_, rfl⟩) rfl rfl (by exact Nat.le_of_ble_eq_true rfl) rfl ?_
  refine aops_nil (xq (xa 18 ?_))
  refine rg_q (q_fieldAddr_ref fld56_0 rfl) (rg_q (q_load_ref sz3 rfl rfl rfl) (rg_q (q_fieldAddr fld364_2 rfl) (rg_q (q_load sz3 rfl rfl) (rg_q (q_fieldAddr fld364_1 rfl) (rg_q (q_load sz3 rfl rfl) ?_)))))
  refine rg_q (q_mul rfl rfl xi) ?_
  refine rg_q (q_call en287 (.cons rfl (.cons rfl .nil)) rfl (Ceil_p _ _ ⟨by omega, by omega⟩ (by omega))) ?_
  refine rg_q (q_sub rfl rfl xi) ?_
  refine rg_q (q_fieldAddr fld364_5 rfl) (rg_q (q_load sz3 rfl rfl) (rg_q (q_fieldAddr fld364_4 rfl) (rg_q (q_load sz3 rfl rfl) ?_)))
  refine rg_q (q_mul rfl rfl xi) ?_
  refine rg_q (q_call en287 (.cons rfl (.cons rfl .nil)) rfl (Ceil_p _ _ ⟨by omega, by omega⟩ (by omega))) ?_
  refine rg_q (q_sub rfl rfl xi) ?_
  refine rg_q (q_max rfl rfl) ?_
  refine rg_q (q_fieldAddr_ref fld56_0 rfl) ?_
  refine rg_nil ?_
  refine aops_store sz3 rfl rfl (by exact .inl rfl) rfl rfl (by exact Nat.le_of_ble_eq_true rfl) rfl ?_
  refine aops_nil (xq (xa 1 ?_))
  refine rg_q (q_load_refA (ds := [_, _]) sz56 rfl rfl rfl rfl) ?_
  refine rg_nil ?_
  refine aops_store sz56 rfl rfl (by exact .inr ⟨_, rfl⟩) rfl rfl (by decide) rfl ?_
  refine aops_nil ?_
  change Awp _ _ _ _ _
  refine awp_ret ?_
  refine ⟨_, (.cons (.cellA rfl rfl sz56 rfl) .nil), ?_⟩
  unfold leastI; rw [h0]; rfl
 ·
  (try simp only [nb, ne_eq] at hc3)
  have h0 : least0 x = timeAtI x (crossI x) := by unfold least0; rw [if_neg (by simpa using hc3)]
  refine awp_skip ?_
  change Awp _ _ _ _ _
  refine awp_seq ?_
  refine xa 18 ?_
  refine rg_q (q_fieldAddr_ref fld56_0 rfl) (rg_q (q_load_ref sz3 rfl rfl rfl) (rg_q (q_fieldAddr fld364_2 rfl) (rg_q (q_load sz3 rfl rfl) (rg_q (q_fieldAddr fld364_1 rfl) (rg_q (q_load sz3 rfl rfl) ?_)))))
  refine rg_q (q_mul rfl rfl xi) ?_
  refine rg_q (q_call en287 (.cons rfl (.cons rfl .nil)) rfl (Ceil_p _ _ ⟨by omega, by omega⟩ (by omega))) ?_
  refine rg_q (q_sub rfl rfl xi) ?_
  refine rg_q (q_fieldAddr fld364_5 rfl) (rg_q (q_load sz3 rfl rfl) (rg_q (q_fieldAddr fld364_4 rfl) (rg_q (q_load sz3 rfl rfl) ?_)))
  refine rg_q (q_mul rfl rfl xi) ?_
  refine rg_q (q_call en287 (.cons rfl (.cons rfl .nil)) rfl (Ceil_p _ _ ⟨by omega, by omega⟩ (by omega))) ?_
  refine rg_q (q_sub rfl rfl xi) ?_
  refine rg_q (q_max rfl rfl) ?_
  refine rg_q (q_fieldAddr_ref fld56_0 rfl) ?_
  refine rg_nil ?_
  refine aops_store sz3 rfl rfl (by exact .inl rfl) rfl rfl (by exact Nat.le_of_ble_eq_true rfl) rfl ?_
  refine aops_nil (xq (xa 1 ?_))
  refine rg_q (q_load_refA (ds := [_, _]) sz56 rfl rfl rfl rfl) ?_
  refine rg_nil ?_
  refine aops_store sz56 rfl rfl (by exact .inr ⟨_, rfl⟩) rfl rfl (by decide) rfl ?_
  refine aops_nil ?_
  change Awp _ _ _ _ _
  refine awp_ret ?_
  refine ⟨_, (.cons (.cellA rfl rfl sz56 rfl) .nil), ?_⟩
  unfold leastI; rw [h0]; rfl
theorem xunfolded_p (m : Md) (z : Int) (hm : MdOk m) (h1 : -100000 ≤ z) (h2 : z ≤ 100000) : PC Tryz.prog 288 [.agg (mdC m), .v (.int .i64 (z))] (.v (.int .i64 (unfI m z))) := by
 obtain ⟨b1, b2⟩ := kt_bounds hm
 obtain ⟨w1, w2, m1, m2, k1, k2, t1, t2⟩ := hm
 have hkm := Int.tmod_nonneg (a := m.k) 2 k1
 have hkl := Int.tmod_lt_of_pos m.k (show (0 : Int) < 2 by decide)
 refine pc_of_awp Tryz.func288 rfl Tryz.ntmps288 (rs := [.tmp 4]) Tryz.results288 (by simp) fun w0 => ?_
 refine awp_seq ?_
 refine xa 2 ?_
 refine rg_q (q_box rfl (by exact .inr ⟨_, rfl⟩)) ?_
 refine rg_q (q_a rfl) ?_
 refine rs (awp_seq ?_)
 refine xa 4 ?_
 refine rg_q (q_fieldAddr fld24_2 rfl) (rg_q (q_load sz3 rfl rfl) ?_)
 refine rg_q (q_rem rfl rfl (by omega)) ?_
 refine rg_q (q_eql rfl rfl) ?_
 refine xc (awp_cond rfl (fun hc1 => ?_) (fun hc1 => ?_))
 ·
  (try simp only [nb, ne_eq] at hc1)
  have hz : unfI m z = m.k * m.t + z := by unfold unfI; rw [if_neg (by omega)]
  refine awp_seq ?_
  refine xa 8 ?_
  refine rg_q (q_fieldAddr fld24_2 rfl) (rg_q (q_load sz3 rfl rfl) (rg_q (q_fieldAddr fld24_3 rfl) (rg_q (q_load sz3 rfl rfl) ?_)))
  refine rg_q (q_mul rfl rfl xi) ?_
  refine rg_q (q_m rfl) ?_
  refine rg_q (q_add rfl rfl xi) ?_
  refine rg_q (q_a rfl) ?_
  refine xc (awp_ret ?_)
  refine ⟨_, xk1, ?_⟩
  rw [hz]; rfl
 ·
  (try simp only [nb, ne_eq] at hc1)
  have hz : unfI m z = m.k * m.t + m.t - z := by unfold unfI; rw [if_pos (by omega)]; omega
  refine awp_skip ?_
  change Awp _ _ _ _ _
  refine awp_seq ?_
  refine xa 11 ?_
  refine rg_q (q_fieldAddr fld24_2 rfl) (rg_q (q_load sz3 rfl rfl) (rg_q (q_fieldAddr fld24_3 rfl) (rg_q (q_load sz3 rfl rfl) ?_)))
  refine rg_q (q_mul rfl rfl xi) ?_
  refine rg_q (q_fieldAddr fld24_3 rfl) (rg_q (q_load sz3 rfl rfl) ?_)
  refine rg_q (q_add rfl rfl xi) ?_
  refine rg_q (q_m rfl) ?_
  refine rg_q (q_sub rfl rfl xi) ?_
  refine rg_q (q_a rfl) ?_
  refine xc (awp_ret ?_)
  refine ⟨_, xk1, ?_⟩
  rw [hz]; rfl
theorem crossOf_p (m : Md) (a b : Int × Int) (hm : MdOk m) (hw : wayE m a b = 0) : PC Tryz.prog 272 [.agg (mdC m), .agg (shC a), .agg (shC b)] (.agg (crsC (wayI m a b).1)) := by
 obtain ⟨⟨g1, g2⟩, ⟨g3, g4⟩, g5, g6, g7⟩ := wayE_ok hw
 have hz := (way_law hm hw).1
 refine pc_of_awpN Tryz.func272 rfl Tryz.ntmps272 (rs := [.cell 6 364]) Tryz.results272 (by simp) fun w0 hmine hrnd hpn => ?_
 refine awp_seq ?_
 refine xa 3 ?_
 refine rg_q (q_box rfl (by exact .inr ⟨_, rfl⟩)) ?_
 refine rg_q (q_box rfl (by exact .inr ⟨_, rfl⟩)) ?_
 refine rg_q (q_box rfl (by exact .inr ⟨_, rfl⟩)) ?_
 refine rg_nil ?_
 refine aops_alloc zr364 rfl rfl rfl ?_
 refine aops_nil (xq (xa 16 ?_))
 refine rg_q (q_fieldAddr fld33_0 rfl) (rg_q (q_load sz3 rfl rfl) (rg_q (q_fieldAddr fld33_1 rfl) (rg_q (q_load sz3 rfl rfl) ?_)))
 refine rg_q (q_neg rfl xi) ?_
 refine rg_q (q_fieldAddr fld24_0 rfl) (rg_q (q_load sz3 rfl rfl) (rg_q (q_fieldAddr fld33_0 rfl) (rg_q (q_load sz3 rfl rfl) ?_)))
 refine rg_q (q_loadA (ds := [_, _, _, _]) sz24 rfl rfl rfl) ?_
 refine rg_q (q_fieldAddr fld33_1 rfl) (rg_q (q_load sz3 rfl rfl) ?_)
 refine rg_q (q_call en288 (.cons rfl (.cons rfl .nil)) rfl (xunfolded_p _ _ hm (by omega) (by omega))) ?_
 refine rg_q (q_fieldAddr fld24_1 rfl) (rg_q (q_load sz3 rfl rfl) ?_)
 refine rg_q (q_build (cs := [_, _, _, _, _, _]) pl364 zr364 rfl (.cons rfl (by exact .inl rfl) (.cons rfl (by exact .inl rfl) (.cons rfl (by exact .inl rfl) (.cons rfl (by exact .inl rfl) (.cons rfl (by exact .inl rfl) (.cons rfl (by exact .inl rfl) .nil)))))) ⟨⟨rfl, by decide⟩, ⟨rfl, by decide⟩, ⟨rfl, by decide⟩, ⟨rfl, by decide⟩, ⟨rfl, by decide⟩, ⟨rfl, by decide⟩, trivial⟩ rfl) ?_
 refine rg_nil ?_
 refine aops_store sz364 rfl rfl (by exact .inr ⟨_, rfl⟩) rfl rfl (by decide) rfl ?_
 refine aops_nil ?_
 change Awp _ _ _ _ _
 refine awp_ret ?_
 refine ⟨_, (.cons (.cellA rfl rfl sz364 rfl) .nil), ?_⟩
 rw [hz]; rfl

theorem lt_is {m : Md} {a b : Int × Int} (hm : MdOk m) (hw : wayE m a b = 0) : ltI m a b = (leastI (wayI m a b).1, 0) := by
  have h1 : modeE m = 0 := mode_ok.2 hm
  have ho : opnI m a b = wayI m a b := by unfold opnI; rw [if_neg (fun q => q h1)]
  unfold ltI
  rw [ho, (way_law hm hw).1]; rfl
theorem xleastTime_p (m : Md) (a b : Int × Int) (hm : MdOk m) (hw : wayE m a b = 0) : PC Tryz.prog 238 [.agg (mdC m), .agg (shC a), .agg (shC b)] (.agg [.v (.int .i64 (((ltI m a b).1).1)), .v (.int .i64 (((ltI m a b).1).2))]) := by
 have hx := (way_law hm hw).2
 have hz := lt_is hm hw
 refine pc_of_awpN Tryz.func238 rfl Tryz.ntmps238 (rs := [.cell 6 56]) Tryz.results238 (by simp) fun w0 hmine hrnd hpn => ?_
 refine awp_seq ?_
 refine xa 3 ?_
 refine rg_q (q_box rfl (by exact .inr ⟨_, rfl⟩)) ?_
 refine rg_q (q_box rfl (by exact .inr ⟨_, rfl⟩)) ?_
 refine rg_q (q_box rfl (by exact .inr ⟨_, rfl⟩)) ?_
 refine rg_nil ?_
 refine aops_alloc zr56 rfl rfl rfl ?_
 refine aops_nil (xq (xa 5 ?_))
 refine rg_q (q_loadA (ds := [_, _, _, _]) sz24 rfl rfl rfl) ?_
 refine rg_q (q_loadA (ds := [_, _]) sz33 rfl rfl rfl) ?_
 refine rg_q (q_loadA (ds := [_, _]) sz33 rfl rfl rfl) ?_
 refine rg_q (q_call en272 (.cons rfl (.cons rfl (.cons rfl .nil))) rfl (crossOf_p _ _ _ hm hw)) ?_
 refine rg_q (q_call en271 (.cons rfl .nil) rfl (xleast_p (wayI m a b).1 hx)) ?_
 refine rg_nil ?_
 refine aops_store sz56 rfl rfl (by exact .inr ⟨_, rfl⟩) rfl rfl (by decide) rfl ?_
 refine aops_nil ?_
 change Awp _ _ _ _ _
 refine awp_ret ?_
 refine ⟨_, (.cons (.cellA rfl rfl sz56 rfl) .nil), ?_⟩
 rw [hz]; rfl
theorem xrounded_p (m : Md) (a b : Int × Int) (hm : MdOk m) (hw : wayE m a b = 0) : PC Tryz.prog 244 [.agg (mdC m), .agg (shC a), .agg (shC b)] (.v (.int .i64 (rtI m a b))) := by
 obtain ⟨h1, h2, h3, h4⟩ := lt_in m a b
 refine pc_of_awpN Tryz.func244 rfl Tryz.ntmps244 (rs := [.tmp 6]) Tryz.results244 (by simp) fun w0 hmine hrnd hpn => ?_
 refine awp_seq ?_
 refine xa 4 ?_
 refine rg_q (q_box rfl (by exact .inr ⟨_, rfl⟩)) ?_
 refine rg_q (q_box rfl (by exact .inr ⟨_, rfl⟩)) ?_
 refine rg_q (q_box rfl (by exact .inr ⟨_, rfl⟩)) ?_
 refine rg_q (q_a rfl) ?_
 refine rs (xa 4 ?_)
 refine rg_q (q_loadA (ds := [_, _, _, _]) sz24 rfl rfl rfl) ?_
 refine rg_q (q_loadA (ds := [_, _]) sz33 rfl rfl rfl) ?_
 refine rg_q (q_loadA (ds := [_, _]) sz33 rfl rfl rfl) ?_
 refine rg_q (q_call en238 (.cons rfl (.cons rfl (.cons rfl .nil))) rfl (xleastTime_p _ _ _ hm hw)) ?_
 refine rg_nil ?_
 refine aops_alloc zr56 rfl rfl rfl ?_
 refine aops_store sz56 rfl rfl (by exact .inr ⟨_, rfl⟩) rfl rfl (by decide) rfl ?_
 refine aops_nil (xq (xa 7 ?_))
 refine rg_q (q_fieldAddr_ref fld56_0 rfl) (rg_q (q_load_ref sz3 rfl rfl rfl) (rg_q (q_fieldAddr_ref fld56_1 rfl) (rg_q (q_load_ref sz3 rfl rfl rfl) ?_)))
 refine rg_q (q_add rfl rfl xi) ?_
 refine rg_q (q_call en273 (.cons rfl (.cons rfl .nil)) rfl (Floor_p _ _ ⟨by omega, by omega⟩ (by omega))) ?_
 refine rg_q (q_a rfl) ?_
 refine xc (awp_ret ?_)
 refine ⟨_, xk1, ?_⟩
 rfl
end Go.Proofs.YtamaocfjknpadaaGreat.Am.M
