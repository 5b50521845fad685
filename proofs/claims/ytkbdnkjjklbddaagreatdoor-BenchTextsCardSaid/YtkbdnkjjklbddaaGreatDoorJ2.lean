/- Contracts over the abstract machine, joined. Conditions: none. -/
import Derived.Test.YtkbdnkjjklbddaaGreatDoorJ1
import Derived.WalkKit
import Derived.Lib.Mul64
import Derived.Laws.Bits64b
set_option linter.unusedVariables false
set_option linter.unusedSimpArgs false
-- mini
set_option maxRecDepth 100000
namespace Go.Proofs.YtkbdnkjjklbddaaGreatDoor.Am.M
open Go
theorem rwithin_p (n lo hi : Int) : PC Tryz.prog 114 [.v (.int .i64 (n)), .v (.int .i64 (lo)), .v (.int .i64 (hi))] (.v (.bool (inR lo n hi))) := by
 refine pc_of_awp Tryz.func114 rfl Tryz.ntmps114 (rs := [.tmp 6]) Tryz.results114 (by simp) fun w0 => ?_
 refine awp_seq ?_
 refine xa 1 ?_
 refine rg_q (q_a rfl) ?_
 refine rs (xa 9 ?_)
 refine rg_q (q_m rfl) (rg_q (q_m rfl) (rg_q (q_leq rfl rfl) (rg_q (q_m rfl) ?_)))
 refine rg_g rfl rfl (fun hG => (q_m rfl)) ?_
 refine rg_g rfl rfl (fun hG => (q_m rfl)) ?_
 refine rg_g rfl rfl (fun hG => (q_leq rfl rfl)) ?_
 refine rg_pick rfl rfl rfl rfl rfl rfl ?_
 refine rg_q (q_a rfl) ?_
 refine xc (awp_ret ?_)
 refine ⟨_, xk1, ?_⟩
 simp only [bif_and]; rfl
theorem rsmall_p (n m : Int) (h1 : 0 ≤ m) (h2 : m ≤ 1000000000000) : PC Tryz.prog 178 [.v (.int .i64 (n)), .v (.int .i64 (m))] (.v (.bool (inR (-m) n m))) := by
 refine pc_of_awp Tryz.func178 rfl Tryz.ntmps178 (rs := [.tmp 4]) Tryz.results178 (by simp) fun w0 => ?_
 refine awp_seq ?_
 refine xa 1 ?_
 refine rg_q (q_a rfl) ?_
 refine rs (xa 6 ?_)
 refine rg_q (q_m rfl) (rg_q (q_m rfl) ?_)
 refine rg_q (q_neg rfl xi) ?_
 refine rg_q (q_m rfl) ?_
 refine rg_q (q_call en114 (.cons rfl (.cons rfl (.cons rfl .nil))) rfl (rwithin_p _ _ _)) ?_
 refine rg_q (q_a rfl) ?_
 refine xc (awp_ret ?_)
 refine ⟨_, xk1, ?_⟩
 rfl

def mustI (b : Bool) (e : Int) : Int := if b = true then 0 else e
theorem must_p (b : Bool) (e : Int) : PC Tryz.prog 113 [.v (.bool (b)), .v (.int .i64 (e))] (.v (.int .i64 (mustI b e))) := by
 refine pc_of_awp Tryz.func113 rfl Tryz.ntmps113 (rs := [.tmp 4]) Tryz.results113 (by simp) fun w0 => ?_
 refine awp_seq ?_
 refine xa 1 ?_
 refine rg_q (q_a rfl) ?_
 refine rs (awp_seq ?_)
 refine xa 1 ?_
 refine rg_q (q_m rfl) ?_
 refine xc (awp_cond rfl (fun hc1 => ?_) (fun hc1 => ?_))
 ·
  (try simp only [nb, ne_eq] at hc1)
  have hz : mustI b e = 0 := by unfold mustI; rw [if_pos hc1]
  refine awp_seq ?_
  refine xa 1 ?_
  refine rg_q (q_a rfl) ?_
  refine xc (awp_ret ?_)
  refine ⟨_, xk1, ?_⟩
  rw [hz]; rfl
 ·
  (try simp only [nb, ne_eq] at hc1)
  have hz : mustI b e = e := by unfold mustI; rw [if_neg (by simpa using hc1)]
  refine awp_skip ?_
  change Awp _ _ _ _ _
  refine awp_seq ?_
  refine xa 2 ?_
  refine rg_q (q_m rfl) (rg_q (q_a rfl) ?_)
  refine xc (awp_ret ?_)
  refine ⟨_, xk1, ?_⟩
  rw [hz]; rfl
theorem rfirst_p (l : List Int) : PC Tryz.prog 111 [.sl 1 (l.map iC)] (.v (.int .i64 (firstE l))) := by
 refine pc_of_awp Tryz.func111 rfl Tryz.ntmps111 (rs := [.tmp 2]) Tryz.results111 (by simp) fun w0 => ?_
 refine awp_seq ?_
 refine xa 1 ?_
 refine rg_q (q_a rfl) ?_
 refine rs (awp_seq ?_)
 refine xa 3 ?_
 refine rg_q (q_move (x := .d (.sl _ _)) rfl) ?_
 refine rg_q (q_len isl160 rfl (by exact len_map _ _)) ?_
 refine rg_q (q_m rfl) ?_
 refine xc (awp_len (t := 5) rfl (fun hl5 => ?_))
 (try simp only [List.length_map] at hl5)
 refine awp_block ?_
 refine awp_loopH [2, 4, 7, 8, 9, 10, 11, 12, 13, 14] [] (α := Nat) (fun k => [(7, T.i (k : Int))]) (fun k => []) (fun k => k ≤ l.length ∧ firstE l = firstE (l.drop k)) (fun k => l.length - k) 0 ⟨Nat.zero_le _, rfl⟩ ?_ ?_
 · exact xh (ms := []) (by repeat (exact Out.refl _)) ⟨(by rfl), trivial⟩ trivial
 ·
  intro k ⟨hk, hf⟩
  refine awp_seq ?_
  refine xa 1 ?_
  refine rg_q (q_lss rfl rfl) ?_
  refine rs (awp_cond rfl (fun hc2 => ?_) (fun hc2 => ?_))
  ·
   (try simp only [nb, ne_eq] at hc2)
   have hlt : k < l.length := by omega
   have hx := List.getElem?_eq_getElem hlt
   have hd : firstE (l.drop k) = if l[k] = 0 then firstE (l.drop (k + 1)) else l[k] := by rw [List.drop_eq_getElem_cons hlt]; rfl
   generalize l[k] = x at *
   refine awp_skip ?_
   change Awp _ _ _ _ _
   refine awp_seq ?_
   refine awp_block ?_
   refine awp_seq ?_
   refine xa 3 ?_
   refine rg_q (q_indexAddr sl160 rfl rfl (by omega) (map_at (by omega) hx)) ?_
   refine rg_q (q_load sz40 rfl rfl) (rg_q (q_a rfl) ?_)
   refine rs (xa 2 ?_)
   refine rg_q (q_m rfl) (rg_q (q_neq rfl rfl) ?_)
   refine xc (awp_cond rfl (fun hc4 => ?_) (fun hc4 => ?_))
   ·
    (try simp only [nb, ne_eq] at hc4)
    refine awp_seq ?_
    refine xa 2 ?_
    refine rg_q (q_m rfl) (rg_q (q_a rfl) ?_)
    refine xc (awp_ret ?_)
    refine ⟨_, xk1, ?_⟩
    rw [hf, hd, if_neg hc4]; rfl
   ·
    (try simp only [nb, ne_eq] at hc4)
    refine awp_skip ?_
    change Awp _ _ _ _ _
    refine xa 2 ?_
    refine rg_q (q_add rfl rfl xi) ?_
    refine rg_q (q_m rfl) ?_
    refine rn ?_
    refine ⟨k + 1, ⟨by omega, by rw [hf, hd, if_pos hc4]⟩, by omega, ?_⟩
    exact xh (ms := []) (by repeat (first | exact Out.head rfl rfl | (refine Out.put ?_ rfl))) ⟨(by rfl), trivial⟩ trivial
  ·
   (try simp only [nb, ne_eq] at hc2)
   refine awp_exit ?_
   change Awp _ _ _ _ _
   refine awp_seq ?_
   refine xa 1 ?_
   refine rg_q (q_a rfl) ?_
   refine xc (awp_ret ?_)
   refine ⟨_, xk1, ?_⟩
   rw [hf, List.drop_of_length_le (by omega)]; rfl
theorem down_p (n b : Int) (h : Sm n) (hb : 0 < b) : PC Tryz.prog 109 [.v (.int .i64 (n)), .v (.int .i64 (b))] (.v (.int .i64 (n / b))) := by
 have hq := tdiv_sm h hb
 obtain ⟨h1, h2⟩ := h
 obtain ⟨h3, h4⟩ := hq
 have hl := floor_law (n := n) hb
 refine pc_of_awp Tryz.func109 rfl Tryz.ntmps109 (rs := [.tmp 4]) Tryz.results109 (by simp) fun w0 => ?_
 refine awp_seq ?_
 refine xa 1 ?_
 refine rg_q (q_a rfl) ?_
 refine rs (xa 4 ?_)
 refine rg_q (q_m rfl) (rg_q (q_m rfl) ?_)
 refine rg_q (q_quo rfl rfl (by omega) xi) ?_
 refine rg_q (q_a rfl) ?_
 refine rs (awp_seq ?_)
 refine xa 4 ?_
 refine rg_q (q_m rfl) (rg_q (q_m rfl) ?_)
 refine rg_q (q_rem rfl rfl (by omega)) ?_
 refine rg_q (q_lss rfl rfl) ?_
 refine xc (awp_cond rfl (fun hc2 => ?_) (fun hc2 => ?_))
 ·
  (try simp only [nb, ne_eq] at hc2)
  rw [if_pos hc2] at hl
  refine xa 3 ?_
  refine rg_q (q_m rfl) ?_
  refine rg_q (q_sub rfl rfl xi) ?_
  refine rg_q (q_a rfl) ?_
  refine rs (xa 2 ?_)
  refine rg_q (q_m rfl) (rg_q (q_a rfl) ?_)
  refine xc (awp_ret ?_)
  refine ⟨_, xk1, ?_⟩
  rw [← hl]; rfl
 ·
  (try simp only [nb, ne_eq] at hc2)
  rw [if_neg (by omega)] at hl
  refine awp_skip ?_
  change Awp _ _ _ _ _
  refine awp_seq ?_
  refine xa 2 ?_
  refine rg_q (q_m rfl) (rg_q (q_a rfl) ?_)
  refine xc (awp_ret ?_)
  refine ⟨_, xk1, ?_⟩
  rw [← hl]; rfl
theorem up_p (n b : Int) (h : Sm n) (hb : 0 < b) : PC Tryz.prog 152 [.v (.int .i64 (n)), .v (.int .i64 (b))] (.v (.int .i64 (ceilI n b))) := by
 obtain ⟨h1, h2⟩ := h
 have hq := ediv_sm (a := -n) ⟨by omega, by omega⟩ hb
 obtain ⟨h3, h4⟩ := hq
 refine pc_of_awp Tryz.func152 rfl Tryz.ntmps152 (rs := [.tmp 4]) Tryz.results152 (by simp) fun w0 => ?_
 refine awp_seq ?_
 refine xa 1 ?_
 refine rg_q (q_a rfl) ?_
 refine rs (xa 6 ?_)
 refine rg_q (q_m rfl) ?_
 refine rg_q (q_neg rfl xi) ?_
 refine rg_q (q_m rfl) ?_
 refine rg_q (q_call en109 (.cons rfl (.cons rfl .nil)) rfl (down_p _ _ ⟨by omega, by omega⟩ (by omega))) ?_
 refine rg_q (q_neg rfl xi) ?_
 refine rg_q (q_a rfl) ?_
 refine xc (awp_ret ?_)
 refine ⟨_, xk1, ?_⟩
 rfl

theorem u64_in {n : Int} (h0 : 0 ≤ n) (h1 : n ≤ 9223372036854775807) : IntKind.u64.wrap n = n := by rw [IntKind.wrap_u64]; omega
theorem i64_at {n : Int} (h0 : 0 ≤ n) (h1 : n ≤ 9223372036854775807) : IntKind.i64.wrap n = n := IntWalk.i64_in _ ⟨by omega, by omega⟩
theorem half_law {n : Int} (h0 : 0 ≤ n) : (0 : Int) ≤ 1 ∧ n.fdiv (2 ^ (min (1 : Int).toNat IntKind.u64.bits)) = n / 2 := ⟨by omega, by rw [show min (1 : Int).toNat IntKind.u64.bits = 1 from by decide, Int.fdiv_eq_ediv_of_nonneg _ (by decide)]; rfl⟩
theorem search_p (f : Int → Bool) (g : FuncId) (cap : List D) (hen : enB Tryz.prog g = true) (n : Int) (hn : n ≤ 4611686018427387903) (hf : ∀ h, 0 ≤ h → h < n → PC Tryz.prog g (.v (.int .i64 h) :: cap) (.v (.bool (f h)))) : PC Tryz.prog 165 [.v (.int .i64 (n)), .fn (.func g) cap] (.v (.int .i64 (srch f n))) := by
 refine pc_of_awp Tryz.func165 rfl Tryz.ntmps165 (rs := [.tmp 4]) Tryz.results165 (by simp) fun w0 => ?_
 refine awp_seq ?_
 refine xa 1 ?_
 refine rg_q (q_a rfl) ?_
 refine rs (xa 3 ?_)
 refine rg_q (q_m rfl) (rg_q (q_a rfl) (rg_q (q_a rfl) ?_))
 refine rs (awp_block ?_)
 refine awp_loopH [5, 6, 7, 9, 10, 11, 12, 13, 14, 15, 16, 17, 18, 19, 20, 21, 22, 23, 24] [] (α := Nat × Int × Int) (fun x => [(5, T.i x.2.1), (6, T.i x.2.2)]) (fun x => []) (fun x => 0 ≤ x.2.1 ∧ x.2.2 ≤ n ∧ (x.2.2 - x.2.1 < 2 ^ x.1) ∧ srch f n = bsr f x.1 x.2.1 x.2.2) (fun x => x.1) (62, 0, n) ⟨by simp, by simp, by simp only; omega, rfl⟩ ?_ ?_
 · exact xh (ms := []) (by repeat (exact Out.refl _)) ⟨(by rfl), (by rfl), trivial⟩ trivial
 ·
  intro ⟨d, i, j⟩ ⟨hi, hj, hd, hh⟩
  simp only at hi hj hd hh
  refine awp_seq ?_
  refine awp_seq ?_
  refine xa 3 ?_
  refine rg_q (q_m rfl) (rg_q (q_m rfl) (rg_q (q_lss rfl rfl) ?_))
  refine xc (awp_cond rfl (fun hc2 => ?_) (fun hc2 => ?_))
  ·
   (try simp only [nb, ne_eq] at hc2)
   obtain ⟨e, rfl⟩ : ∃ e, d = e + 1 := by cases d with
    | zero => simp at hd; omega
    | succ e => exact ⟨e, rfl⟩
   have he : (2 : Int) ^ (e + 1) = 2 ^ e + 2 ^ e := by rw [Int.pow_succ]; omega
   have hst := bsr_step (f := f) (k := e) hc2
   have hfx := hf ((i + j) / 2) (by omega) (by omega)
   refine awp_skip ?_
   change Awp _ _ _ _ _
   refine awp_block ?_
   refine awp_seq ?_
   refine xa 7 ?_
   refine rg_q (q_m rfl) (rg_q (q_m rfl) ?_)
   refine rg_q (q_add rfl rfl (In64.mk (by (simp only; omega)) (by (simp only; omega)))) ?_
   refine rg_q (q_convE int3 int216 rfl (u64_in (by (simp only; omega)) (by (simp only; omega)))) ?_
   refine rg_q (q_shrE rfl rfl (half_law (by (simp only; omega)))) ?_
   refine rg_q (q_convE int216 int3 rfl (i64_at (by (simp only; omega)) (by (simp only; omega)))) ?_
   refine rg_q (q_a rfl) ?_
   refine rs (xa 4 ?_)
   refine rg_q (q_move (x := .d (.fn _ _)) rfl) (rg_q (q_m rfl) ?_)
   refine rg_q (q_callC hen rfl (.cons rfl .nil) (hfx)) ?_
   refine rg_q (q_not rfl) ?_
   refine xc (awp_cond rfl (fun hc4 => ?_) (fun hc4 => ?_))
   ·
    (try simp only [nb, ne_eq] at hc4)
    have hq : f ((i + j) / 2) = false := by simpa using hc4
    refine xa 3 ?_
    refine rg_q (q_m rfl) ?_
    refine rg_q (q_add rfl rfl (In64.mk (by (simp only; omega)) (by (simp only; omega)))) ?_
    refine rg_q (q_a rfl) ?_
    refine rn ?_
    refine ⟨(e, (i + j) / 2 + 1, j), ⟨by simp only; omega, by simp only; omega, by simp only; omega, by rw [hh, hst, if_neg (by rw [hq]; simp)]⟩, by simp only; omega, ?_⟩
    exact xh (ms := []) (by repeat (first | exact Out.head rfl rfl | (refine Out.put ?_ rfl))) ⟨(by rfl), (by rfl), trivial⟩ trivial
   ·
    (try simp only [nb, ne_eq] at hc4)
    have hq : f ((i + j) / 2) = true := by simpa using hc4
    refine xa 2 ?_
    refine rg_q (q_m rfl) (rg_q (q_a rfl) ?_)
    refine rn ?_
    refine ⟨(e, i, (i + j) / 2), ⟨by simp only; omega, by simp only; omega, by simp only; omega, by rw [hh, hst, if_pos hq]⟩, by simp only; omega, ?_⟩
    exact xh (ms := []) (by repeat (first | exact Out.head rfl rfl | (refine Out.put ?_ rfl))) ⟨(by rfl), (by rfl), trivial⟩ trivial
  ·
   (try simp only [nb, ne_eq] at hc2)
   have hz := bsr_stop (f := f) (k := d) (i := i) (j := j) (by omega)
   refine awp_exit ?_
   change Awp _ _ _ _ _
   refine awp_seq ?_
   refine xa 2 ?_
   refine rg_q (q_m rfl) (rg_q (q_a rfl) ?_)
   refine xc (awp_ret ?_)
   refine ⟨_, xk1, ?_⟩
   rw [hh, hz]; rfl
theorem root1_p (r n : Int) (h0 : 0 ≤ r) (h1 : r < 2147483648) : PC Tryz.prog 185 [.v (.int .i64 (r)), .pt [.v (.int .i64 (n))] 0] (.v (.bool (decide (n < r * r)))) := by
 have m := mulb (a := r) (b := r) (A := 2147483648) (B := 2147483648) (by omega) (by omega) (by omega) (by omega)
 refine pc_of_awp Tryz.func185 rfl Tryz.ntmps185 (rs := [.tmp 3]) Tryz.results185 (by simp) fun w0 => ?_
 refine awp_seq ?_
 refine xa 1 ?_
 refine rg_q (q_a rfl) ?_
 refine rs (xa 6 ?_)
 refine rg_q (q_m rfl) (rg_q (q_m rfl) ?_)
 refine rg_q (q_mul rfl rfl xi) ?_
 refine rg_q (q_load sz3 rfl rfl) (rg_q (q_gtr rfl rfl) (rg_q (q_a rfl) ?_))
 refine xc (awp_ret ?_)
 refine ⟨_, xk1, ?_⟩
 rfl
theorem root_p (n : Int) (h0 : 0 ≤ n) (h1 : n < 4611686018427387904) : PC Tryz.prog 181 [.v (.int .i64 (n))] (.v (.int .i64 (rootI n))) := by
 have hs := root_srch h0 h1
 obtain ⟨r1, r2, r3, r4⟩ := root_spec h0 h1
 refine pc_of_awp Tryz.func181 rfl Tryz.ntmps181 (rs := [.tmp 2]) Tryz.results181 (by simp) fun w0 => ?_
 refine awp_seq ?_
 refine xa 2 ?_
 refine rg_q (q_box rfl (by exact .inl rfl)) ?_
 refine rg_q (q_a rfl) ?_
 refine rs (xa 4 ?_)
 refine rg_q (q_makeFunc (.cons rfl .nil)) ?_
 refine rg_q (q_call en165 (.cons rfl (.cons rfl .nil)) rfl (search_p (fun r => decide (n < r * r)) 185 [.pt [.v (.int .i64 n)] 0] en185 2147483648 (by omega) (fun h a b => root1_p h n a b))) ?_
 refine rg_q (q_sub rfl rfl xi) ?_
 refine rg_q (q_a rfl) ?_
 refine xc (awp_ret ?_)
 refine ⟨_, xk1, ?_⟩
 rw [← hs]; rfl

theorem len_bounds {x z : Int} (h1 : -200000 ≤ x) (h2 : x ≤ 200000) (h3 : -200000 ≤ z) (h4 : z ≤ 200000) : 0 ≤ x * x ∧ x * x ≤ 40000000000 ∧ 0 ≤ z * z ∧ z * z ≤ 40000000000 := by
  have sq : ∀ t : Int, -200000 ≤ t → t ≤ 200000 → 0 ≤ t * t ∧ t * t ≤ 40000000000 := fun t a b => by
    have m := mulb (a := t) (b := t) (A := 200000) (B := 200000) (by omega) (by omega) (by omega) (by omega)
    refine ⟨?_, by omega⟩
    rcases Int.le_total 0 t with q | q
    · exact Int.mul_nonneg q q
    · have := Int.mul_nonneg (show 0 ≤ -t by omega) (show 0 ≤ -t by omega)
      rwa [Int.neg_mul_neg] at this
  exact ⟨(sq x h1 h2).1, (sq x h1 h2).2, (sq z h3 h4).1, (sq z h3 h4).2⟩
structure LenIn (r : Rg) : Prop where
  a : 0 ≤ r.1
  b : r.1 ≤ 400000000
  c : 0 ≤ r.2
  d : r.2 ≤ 400000000
  e : r.1 ≤ r.2
theorem len_in {x z : Int} (h1 : -200000 ≤ x) (h2 : x ≤ 200000) (h3 : -200000 ≤ z) (h4 : z ≤ 200000) : LenIn (lenI x z) := by
  obtain ⟨b1, b2, b3, b4⟩ := len_bounds h1 h2 h3 h4
  obtain ⟨r1, r2, r3, r4⟩ := root_spec (n := 1000000 * (x * x + z * z)) (by omega) (by omega)
  have h5 : rootI (1000000 * (x * x + z * z)) < 300000000 := sq_lt (by omega) (by omega)
  unfold lenI
  refine ⟨r1, by simp only; omega, ?_, ?_, ?_⟩ <;> simp only <;> split <;> omega
theorem length_p (x z : Int) (h1 : -200000 ≤ x) (h2 : x ≤ 200000) (h3 : -200000 ≤ z) (h4 : z ≤ 200000) : PC Tryz.prog 170 [.v (.int .i64 (x)), .v (.int .i64 (z))] (.agg [.v (.int .i64 ((lenI x z).1)), .v (.int .i64 ((lenI x z).2))]) := by
 obtain ⟨b1, b2, b3, b4⟩ := len_bounds h1 h2 h3 h4
 obtain ⟨r1, r2, r3, r4⟩ := root_spec (n := 1000000 * (x * x + z * z)) (by omega) (by omega)
 have r5 := Int.mul_nonneg r1 r1
 refine pc_of_awp Tryz.func170 rfl Tryz.ntmps170 (rs := [.cell 4 187]) Tryz.results170 (by simp) fun w0 => ?_
 refine awp_seq ?_
 refine xa 0 ?_
 refine rg_nil ?_
 refine aops_alloc zr187 rfl rfl rfl ?_
 refine aops_nil (xq (xa 9 ?_))
 refine rg_q (q_m rfl) (rg_q (q_m rfl) ?_)
 refine rg_q (q_mul rfl rfl xi) ?_
 refine rg_q (q_m rfl) (rg_q (q_m rfl) ?_)
 refine rg_q (q_mul rfl rfl xi) ?_
 refine rg_q (q_add rfl rfl xi) ?_
 refine rg_q (q_mul rfl rfl xi) ?_
 refine rg_q (q_a rfl) ?_
 refine rs (xa 3 ?_)
 refine rg_q (q_m rfl) ?_
 refine rg_q (q_call en181 (.cons rfl .nil) rfl (root_p _ (by omega) (by omega))) ?_
 refine rg_q (q_build (cs := [_, _]) pl187 zr187 rfl (.cons rfl (by exact .inl rfl) .nil) ⟨⟨rfl, by decide⟩, trivial⟩ rfl) ?_
 refine rg_nil ?_
 refine aops_alloc zr187 rfl rfl rfl ?_
 refine aops_store sz187 rfl rfl (by exact .inr ⟨_, rfl⟩) rfl rfl (by decide) rfl ?_
 refine aops_nil (xq (xa 3 ?_))
 refine rg_q (q_fieldAddr_ref fld187_0 rfl) (rg_q (q_load_ref sz3 rfl rfl rfl) (rg_q (q_fieldAddr_ref fld187_1 rfl) ?_))
 refine rg_nil ?_
 refine aops_store sz3 rfl rfl (by exact .inl rfl) rfl rfl (by exact Nat.le_of_ble_eq_true rfl) rfl ?_
 refine aops_nil (xq (awp_seq ?_))
 refine xa 7 ?_
 refine rg_q (q_fieldAddr_ref fld187_0 rfl) (rg_q (q_load_ref sz3 rfl rfl rfl) (rg_q (q_fieldAddr_ref fld187_0 rfl) (rg_q (q_load_ref sz3 rfl rfl rfl) ?_)))
 refine rg_q (q_mul rfl rfl xi) ?_
 refine rg_q (q_m rfl) (rg_q (q_lss rfl rfl) ?_)
 refine xc (awp_cond rfl (fun hc4 => ?_) (fun hc4 => ?_))
 ·
  (try simp only [nb, ne_eq] at hc4)
  have hz : (lenI x z).2 = rootI (1000000 * (x * x + z * z)) + 1 := by unfold lenI; simp only; rw [if_pos hc4]
  refine xa 4 ?_
  refine rg_q (q_fieldAddr_ref fld187_1 rfl) (rg_q (q_load_ref sz3 rfl rfl rfl) ?_)
  refine rg_q (q_add rfl rfl xi) ?_
  refine rg_q (q_fieldAddr_ref fld187_1 rfl) ?_
  refine rg_nil ?_
  refine aops_store sz3 rfl rfl (by exact .inl rfl) rfl rfl (by exact Nat.le_of_ble_eq_true rfl) rfl ?_
  refine aops_nil (xq (xa 1 ?_))
  refine rg_q (q_load_refA (ds := [_, _]) sz187 rfl rfl rfl rfl) ?_
  refine rg_nil ?_
  refine aops_store sz187 rfl rfl (by exact .inr ⟨_, rfl⟩) rfl rfl (by decide) rfl ?_
  refine aops_nil ?_
  change Awp _ _ _ _ _
  refine awp_ret ?_
  refine ⟨_, (.cons (.cellA rfl rfl sz187 rfl) .nil), ?_⟩
  rw [hz]; rfl
 ·
  (try simp only [nb, ne_eq] at hc4)
  have hz : (lenI x z).2 = rootI (1000000 * (x * x + z * z)) := by unfold lenI; simp only; rw [if_neg (by omega)]
  refine awp_skip ?_
  change Awp _ _ _ _ _
  refine awp_seq ?_
  refine xa 1 ?_
  refine rg_q (q_load_refA (ds := [_, _]) sz187 rfl rfl rfl rfl) ?_
  refine rg_nil ?_
  refine aops_store sz187 rfl rfl (by exact .inr ⟨_, rfl⟩) rfl rfl (by decide) rfl ?_
  refine aops_nil ?_
  change Awp _ _ _ _ _
  refine awp_ret ?_
  refine ⟨_, (.cons (.cellA rfl rfl sz187 rfl) .nil), ?_⟩
  rw [hz]; rfl
theorem time_p (r : Rg) (v : Int) (hr : LenIn r) (h1 : 500 ≤ v) : PC Tryz.prog 169 [.agg [.v (.int .i64 ((r).1)), .v (.int .i64 ((r).2))], .v (.int .i64 (v))] (.agg [.v (.int .i64 ((timI r v).1)), .v (.int .i64 ((timI r v).2))]) := by
 obtain ⟨a1, a2, a3, a4, a5⟩ := hr
 refine pc_of_awp Tryz.func169 rfl Tryz.ntmps169 (rs := [.cell 4 187]) Tryz.results169 (by simp) fun w0 => ?_
 refine awp_seq ?_
 refine xa 1 ?_
 refine rg_q (q_box rfl (by exact .inr ⟨_, rfl⟩)) ?_
 refine rg_nil ?_
 refine aops_alloc zr187 rfl rfl rfl ?_
 refine aops_nil (xq (xa 11 ?_))
 refine rg_q (q_fieldAddr fld187_0 rfl) (rg_q (q_load sz3 rfl rfl) ?_)
 refine rg_q (q_mul rfl rfl xi) ?_
 refine rg_q (q_m rfl) ?_
 refine rg_q (q_call en109 (.cons rfl (.cons rfl .nil)) rfl (down_p _ _ ⟨by omega, by omega⟩ (by omega))) ?_
 refine rg_q (q_fieldAddr fld187_1 rfl) (rg_q (q_load sz3 rfl rfl) ?_)
 refine rg_q (q_mul rfl rfl xi) ?_
 refine rg_q (q_m rfl) ?_
 refine rg_q (q_call en152 (.cons rfl (.cons rfl .nil)) rfl (up_p _ _ ⟨by omega, by omega⟩ (by omega))) ?_
 refine rg_q (q_build (cs := [_, _]) pl187 zr187 rfl (.cons rfl (by exact .inl rfl) (.cons rfl (by exact .inl rfl) .nil)) ⟨⟨rfl, by decide⟩, ⟨rfl, by decide⟩, trivial⟩ rfl) ?_
 refine rg_nil ?_
 refine aops_store sz187 rfl rfl (by exact .inr ⟨_, rfl⟩) rfl rfl (by decide) rfl ?_
 refine aops_nil ?_
 change Awp _ _ _ _ _
 refine awp_ret ?_
 refine ⟨_, (.cons (.cellA rfl rfl sz187 rfl) .nil), ?_⟩
 rfl
theorem plus_p (a b : Rg) (h1 : -1000000000000000 ≤ a.1) (h2 : a.1 ≤ 1000000000000000) (h3 : -1000000000000000 ≤ b.1) (h4 : b.1 ≤ 1000000000000000) (h5 : -1000000000000000 ≤ a.2) (h6 : a.2 ≤ 1000000000000000) (h7 : -1000000000000000 ≤ b.2) (h8 : b.2 ≤ 1000000000000000) : PC Tryz.prog 168 [.agg [.v (.int .i64 ((a).1)), .v (.int .i64 ((a).2))], .agg [.v (.int .i64 ((b).1)), .v (.int .i64 ((b).2))]] (.agg [.v (.int .i64 (((a.1 + b.1, a.2 + b.2)).1)), .v (.int .i64 (((a.1 + b.1, a.2 + b.2)).2))]) := by
 refine pc_of_awp Tryz.func168 rfl Tryz.ntmps168 (rs := [.cell 4 187]) Tryz.results168 (by simp) fun w0 => ?_
 refine awp_seq ?_
 refine xa 2 ?_
 refine rg_q (q_box rfl (by exact .inr ⟨_, rfl⟩)) ?_
 refine rg_q (q_box rfl (by exact .inr ⟨_, rfl⟩)) ?_
 refine rg_nil ?_
 refine aops_alloc zr187 rfl rfl rfl ?_
 refine aops_nil (xq (xa 11 ?_))
 refine rg_q (q_fieldAddr fld187_0 rfl) (rg_q (q_load sz3 rfl rfl) (rg_q (q_fieldAddr fld187_0 rfl) (rg_q (q_load sz3 rfl rfl) ?_)))
 refine rg_q (q_add rfl rfl xi) ?_
 refine rg_q (q_fieldAddr fld187_1 rfl) (rg_q (q_load sz3 rfl rfl) (rg_q (q_fieldAddr fld187_1 rfl) (rg_q (q_load sz3 rfl rfl) ?_)))
 refine rg_q (q_add rfl rfl xi) ?_
 refine rg_q (q_build (cs := [_, _]) pl187 zr187 rfl (.cons rfl (by exact .inl rfl) (.cons rfl (by exact .inl rfl) .nil)) ⟨⟨rfl, by decide⟩, ⟨rfl, by decide⟩, trivial⟩ rfl) ?_
 refine rg_nil ?_
 refine aops_store sz187 rfl rfl (by exact .inr ⟨_, rfl⟩) rfl rfl (by decide) rfl ?_
 refine aops_nil ?_
 change Awp _ _ _ _ _
 refine awp_ret ?_
 refine ⟨_, (.cons (.cellA rfl rfl sz187 rfl) .nil), ?_⟩
 rfl

theorem maskN (a : Nat) (ha : a < 18446744073709551616) : bits .and .u64 (a : Int) 4294967295 = ((a % 4294967296 : Nat) : Int) := by
  have h := bits_and_u64_nat a 4294967295 ha (by omega)
  have e : a &&& 4294967295 = a % 4294967296 := Nat.and_two_pow_sub_one_eq_mod a 32
  rw [e] at h
  exact h
theorem divN (a : Nat) : (a : Int) / 4294967296 = ((a / 4294967296 : Nat) : Int) := by omega
theorem mulN (a b : Nat) : (a : Int) * (b : Int) = ((a * b : Nat) : Int) := (Int.natCast_mul a b).symm
theorem addN (a b : Nat) : (a : Int) + (b : Int) = ((a + b : Nat) : Int) := (Int.natCast_add a b).symm
theorem wrapN (a : Nat) (ha : a < 18446744073709551616) : IntKind.u64.wrap (a : Int) = (a : Int) := by rw [IntKind.wrap_u64]; omega
theorem wrapM (a : Nat) : IntKind.u64.wrap (a : Int) = ((a % 18446744073709551616 : Nat) : Int) := by rw [IntKind.wrap_u64]; omega
set_option maxHeartbeats 1000000 in
theorem mul64_c (x y : Nat) (hx : x < 18446744073709551616) (hy : y < 18446744073709551616) (w : World) :
    Calls Tryz.prog 184 #[.int .u64 x, .int .u64 y] w fun e w' => e = .returned (.tuple #[.int .u64 ((x * y / 18446744073709551616 : Nat) : Int), .int .u64 ((x * y % 18446744073709551616 : Nat) : Int)]) ∧ w' = w := by
  obtain ⟨bd, bt, bw, hhi⟩ := Lib.mul64_hi x y hx hy
  have ba := Lib.half_mul_le (a := x / 4294967296) (b := y / 4294967296) (by omega) (by omega)
  have bb := Lib.half_mul_le (a := x / 4294967296) (b := y % 4294967296) (by omega) (by omega)
  have bc := Lib.half_mul_le (a := x % 4294967296) (b := y / 4294967296) (by omega) (by omega)
  have ba' : x / 4294967296 * (y / 4294967296) < 18446744073709551616 := by omega
  have bb' : x / 4294967296 * (y % 4294967296) < 18446744073709551616 := by omega
  have bc' : x % 4294967296 * (y / 4294967296) < 18446744073709551616 := by omega
  have bh1 : x / 4294967296 * (y / 4294967296) + (x / 4294967296 * (y % 4294967296) + x % 4294967296 * (y % 4294967296) / 4294967296) / 4294967296 < 18446744073709551616 := by omega
  have bh : x / 4294967296 * (y / 4294967296) + (x / 4294967296 * (y % 4294967296) + x % 4294967296 * (y % 4294967296) / 4294967296) / 4294967296 + ((x / 4294967296 * (y % 4294967296) + x % 4294967296 * (y % 4294967296) / 4294967296) % 4294967296 + x % 4294967296 * (y / 4294967296)) / 4294967296 < 18446744073709551616 := by omega
  go_enter Tryz.func184, Tryz.ntmps184
  go_wp2
  simp only [maskN x hx, maskN y hy, divN, mulN, addN, wrapN _ bd, wrapN _ bb', wrapN _ bt, maskN _ bt, wrapN _ bc', wrapN _ bw, wrapN _ ba', wrapN _ bh1, wrapN _ bh, wrapM (x * y)]
  rw [hhi]
  go_ret2
  exact ⟨rfl, rfl⟩
theorem rep_tup {w : World} {ok : Nat → Prop} {cs : List D} {vs : List Value} (h : RepL w ok cs vs) : Rep w ok (.tup cs) (.tuple vs.toArray) :=
  .tup cs vs h.length fun j d v h1 h2 => h.get j d v h1 h2
def hi64 (p : Int) : Int := p / 18446744073709551616
def lo64 (p : Int) : Int := p % 18446744073709551616
theorem mul64_p (x y : Int) (h1 : 0 ≤ x) (h2 : x < 18446744073709551616) (h3 : 0 ≤ y) (h4 : y < 18446744073709551616) : PC Tryz.prog 184 [.v (.int .u64 x), .v (.int .u64 y)] (.tup [.v (.int .u64 (hi64 (x * y))), .v (.int .u64 (lo64 (x * y)))]) := by
  intro w ok vs hL
  match vs, hL with
  | [v, v'], ⟨k1, k2, _⟩ =>
    rw [Rep.v_eq k1, Rep.v_eq k2]
    obtain ⟨a, rfl⟩ := Int.eq_ofNat_of_zero_le h1
    obtain ⟨b, rfl⟩ := Int.eq_ofNat_of_zero_le h3
    refine (mul64_c a b (by omega) (by omega) w).mono ?_
    rintro e w' ⟨rfl, rfl⟩
    have e1 : hi64 ((a : Int) * (b : Int)) = ((a * b / 18446744073709551616 : Nat) : Int) := by unfold hi64; rw [← Int.natCast_mul]; omega
    have e2 : lo64 ((a : Int) * (b : Int)) = ((a * b % 18446744073709551616 : Nat) : Int) := by unfold lo64; rw [← Int.natCast_mul]; omega
    rw [e1, e2]
    exact ⟨_, rfl, Ext.refl _, rep_tup (vs := [.int .u64 _, .int .u64 _]) ⟨.v _ rfl, .v _ rfl, trivial⟩⟩
end Go.Proofs.YtkbdnkjjklbddaaGreatDoor.Am.M
-- mini
set_option maxRecDepth 100000
namespace Go.Proofs.YtkbdnkjjklbddaaGreatDoor.Am.M
open Go
theorem times_p (a b : Int) (h1 : 0 ≤ a) (h2 : a ≤ 9223372036854775807) (h3 : 0 ≤ b) (h4 : b ≤ 9223372036854775807) : PC Tryz.prog 179 [.v (.int .i64 (a)), .v (.int .i64 (b))] (.agg [.v (.int .u64 (hi64 (a * b))), .v (.int .u64 (lo64 (a * b)))]) := by
 refine pc_of_awp Tryz.func179 rfl Tryz.ntmps179 (rs := [.cell 4 253]) Tryz.results179 (by simp) fun w0 => ?_
 refine awp_seq ?_
 refine xa 0 ?_
 refine rg_nil ?_
 refine aops_alloc zr253 rfl rfl rfl ?_
 refine aops_nil (xq (xa 10 ?_))
 refine rg_q (q_m rfl) ?_
 refine rg_q (q_convE int3 int194 rfl (u64_in (by omega) (by omega))) ?_
 refine rg_q (q_m rfl) ?_
 refine rg_q (q_convE int3 int194 rfl (u64_in (by omega) (by omega))) ?_
 refine rg_q (q_call en184 (.cons rfl (.cons rfl .nil)) rfl (mul64_p _ _ (by omega) (by omega) (by omega) (by omega))) ?_
 refine rg_q (q_move (x := .d (.tup _)) rfl) (rg_q (q_extract rfl rfl) (rg_q (q_extract rfl rfl) (rg_q (q_a rfl) (rg_q (q_a rfl) ?_))))
 refine rs (xa 3 ?_)
 refine rg_q (q_m rfl) (rg_q (q_m rfl) ?_)
 refine rg_q (q_build (cs := [_, _]) pl253 zr253 rfl (.cons rfl (by exact .inl rfl) (.cons rfl (by exact .inl rfl) .nil)) ⟨⟨rfl, by decide⟩, ⟨rfl, by decide⟩, trivial⟩ rfl) ?_
 refine rg_nil ?_
 refine aops_store sz253 rfl rfl (by exact .inr ⟨_, rfl⟩) rfl rfl (by decide) rfl ?_
 refine aops_nil ?_
 change Awp _ _ _ _ _
 refine awp_ret ?_
 refine ⟨_, (.cons (.cellA rfl rfl sz253 rfl) .nil), ?_⟩
 rfl

theorem hl64 (a : Int) : a = hi64 a * 18446744073709551616 + lo64 a ∧ 0 ≤ lo64 a ∧ lo64 a < 18446744073709551616 := by unfold hi64 lo64; omega
theorem compare_p (a b : Int) : PC Tryz.prog 180 [.agg [.v (.int .u64 (hi64 (a))), .v (.int .u64 (lo64 (a)))], .agg [.v (.int .u64 (hi64 (b))), .v (.int .u64 (lo64 (b)))]] (.v (.int .i64 (sgnI a b))) := by
 obtain ⟨a1, a2, a3⟩ := hl64 a
 obtain ⟨b1, b2, b3⟩ := hl64 b
 refine pc_of_awp Tryz.func180 rfl Tryz.ntmps180 (rs := [.tmp 4]) Tryz.results180 (by simp) fun w0 => ?_
 refine awp_seq ?_
 refine xa 3 ?_
 refine rg_q (q_box rfl (by exact .inr ⟨_, rfl⟩)) ?_
 refine rg_q (q_box rfl (by exact .inr ⟨_, rfl⟩)) ?_
 refine rg_q (q_a rfl) ?_
 refine rs (awp_block ?_)
 refine awp_seq ?_
 refine xa 4 ?_
 refine rg_q (q_loadA (ds := [_, _]) sz253 rfl rfl rfl) ?_
 refine rg_q (q_loadA (ds := [_, _]) sz253 rfl rfl rfl) ?_
 refine rg_q (q_eqlK (xs := [_, _]) (ys := [_, _]) eqk253 rfl rfl rfl rfl) ?_
 refine rg_q (q_a rfl) ?_
 refine xc (awp_cond rfl (fun hc1 => ?_) (fun hc1 => ?_))
 ·
  (try simp only [nb, ne_eq] at hc1)
  have hz : sgnI a b = 0 := by unfold sgnI; rw [if_pos (by simp at hc1; omega)]
  refine awp_seq ?_
  refine xa 1 ?_
  refine rg_q (q_a rfl) ?_
  refine xc (awp_ret ?_)
  refine ⟨_, xk1, ?_⟩
  rw [hz]; rfl
 ·
  (try simp only [nb, ne_eq] at hc1)
  have hne : ¬ a = b := fun e => by subst e; simp at hc1
  refine awp_seq ?_
  refine xa 20 ?_
  refine rg_q (q_fieldAddr fld253_0 rfl) (rg_q (q_load sz194 rfl rfl) (rg_q (q_fieldAddr fld253_0 rfl) (rg_q (q_load sz194 rfl rfl) (rg_q (q_lss rfl rfl) (rg_q (q_m rfl) ?_)))))
  refine rg_g rfl rfl (fun hG => (q_fieldAddr fld253_0 rfl)) ?_
  refine rg_g rfl rfl (fun hG => (q_load sz194 rfl rfl)) ?_
  refine rg_g rfl rfl (fun hG => (q_fieldAddr fld253_0 rfl)) ?_
  refine rg_g rfl rfl (fun hG => (q_load sz194 rfl rfl)) ?_
  refine rg_g rfl rfl (fun hG => (q_eql rfl rfl)) ?_
  refine rg_g rfl rfl (fun hG => (q_m rfl)) ?_
  refine rg_g rfl rfl (fun hG => (q_fieldAddr fld253_1 rfl)) ?_
  refine rg_g rfl rfl (fun hG => (q_load sz194 rfl rfl)) ?_
  refine rg_g rfl rfl (fun hG => (q_fieldAddr fld253_1 rfl)) ?_
  refine rg_g rfl rfl (fun hG => (q_load sz194 rfl rfl)) ?_
  refine rg_g rfl rfl (fun hG => (q_lss rfl rfl)) ?_
  refine rg_pickg rfl rfl rfl rfl rfl rfl rfl rfl ?_
  refine rg_pick rfl rfl rfl rfl rfl rfl ?_
  refine rg_q (q_a rfl) ?_
  refine xc (awp_cond rfl (fun hc3 => ?_) (fun hc3 => ?_))
  ·
   (try simp only [nb, ne_eq] at hc3)
   have hz : sgnI a b = -1 := by unfold sgnI; rw [if_neg hne, if_pos (by omega)]
   refine awp_seq ?_
   refine xa 1 ?_
   refine rg_q (q_a rfl) ?_
   refine xc (awp_ret ?_)
   refine ⟨_, xk1, ?_⟩
   rw [hz]; rfl
  ·
   (try simp only [nb, ne_eq] at hc3)
   have hz : sgnI a b = 1 := by unfold sgnI; rw [if_neg hne, if_neg (by omega)]
   refine awp_skip ?_
   change Awp _ _ _ _ _
   refine awp_seq ?_
   refine xa 1 ?_
   refine rg_q (q_a rfl) ?_
   refine xc (awp_ret ?_)
   refine ⟨_, xk1, ?_⟩
   rw [hz]; rfl

theorem slope_bounds {t v h : Int} (t1 : -200000 ≤ t) (t2 : t ≤ 200000) (v1 : 500 ≤ v) (v2 : v ≤ 10000) (h1 : 1 ≤ h) (h2 : h ≤ 100000) :
    (-2000000000 ≤ t * v ∧ t * v ≤ 2000000000) ∧ (-400000000000000 ≤ t * v * t ∧ t * v * t ≤ 400000000000000) ∧ (0 ≤ t * v * t * v ∧ t * v * t * v ≤ 4000000000000000000) ∧ (0 ≤ t * t ∧ t * t ≤ 40000000000) ∧ (0 ≤ h * h ∧ h * h ≤ 10000000000) := by
  have m1 := mulb (a := t) (b := v) (A := 200000) (B := 10000) (by omega) (by omega) (by omega) (by omega)
  have m2 := mulb (a := t * v) (b := t) (A := 2000000000) (B := 200000) (by omega) (by omega) (by omega) (by omega)
  have m3 := mulb (a := t * v * t) (b := v) (A := 400000000000000) (B := 10000) (by omega) (by omega) (by omega) (by omega)
  obtain ⟨b1, b2, b3, b4⟩ := len_bounds (x := t) (z := h) t1 t2 (by omega) (by omega)
  have m4 := mulb (a := h) (b := h) (A := 100000) (B := 100000) (by omega) (by omega) (by omega) (by omega)
  have e : t * v * t * v = (t * v) * (t * v) := by grind
  have n : 0 ≤ (t * v) * (t * v) := by
    rcases Int.le_total 0 (t * v) with q | q
    · exact Int.mul_nonneg q q
    · have := Int.mul_nonneg (show 0 ≤ -(t * v) by omega) (show 0 ≤ -(t * v) by omega)
      rwa [Int.neg_mul_neg] at this
  refine ⟨by omega, by omega, by omega, ⟨b1, b2⟩, b3, by omega⟩
theorem slope_p (x : Crs) (t : Int) (hx : CrsOk x) (h1 : -100000 ≤ t) (h2 : t ≤ 100000) : PC Tryz.prog 167 [.agg (crsC x), .v (.int .i64 (t))] (.v (.int .i64 (slopeI x t))) := by
 obtain ⟨a1, a2, b1, b2, c1, c2, d1, d2, e1, e2, f1, f2⟩ := hx
 obtain ⟨p1, p2, p3, p4, p5⟩ := slope_bounds (t := t - x.x1) (v := x.v2) (h := x.h1) (by omega) (by omega) f1 f2 c1 c2
 obtain ⟨q1, q2, q3, q4, q5⟩ := slope_bounds (t := x.x2 - t) (v := x.v1) (h := x.h2) (by omega) (by omega) e1 e2 d1 d2
 have hs : -1 ≤ sgnI (oneI x t) (twoI x t) ∧ sgnI (oneI x t) (twoI x t) ≤ 1 := by unfold sgnI; split <;> (try split) <;> omega
 refine pc_of_awp Tryz.func167 rfl Tryz.ntmps167 (rs := [.tmp 4]) Tryz.results167 (by simp) fun w0 => ?_
 refine awp_seq ?_
 refine xa 2 ?_
 refine rg_q (q_box rfl (by exact .inr ⟨_, rfl⟩)) ?_
 refine rg_q (q_a rfl) ?_
 refine rs (xa 12 ?_)
 refine rg_q (q_m rfl) (rg_q (q_fieldAddr fld209_0 rfl) (rg_q (q_fieldAddr fld207_0 rfl) (rg_q (q_load sz3 rfl rfl) ?_)))
 refine rg_q (q_sub rfl rfl xi) ?_
 refine rg_q (q_fieldAddr fld209_0 rfl) (rg_q (q_fieldAddr fld207_3 rfl) (rg_q (q_load sz3 rfl rfl) (rg_q (q_m rfl) ?_)))
 refine rg_q (q_sub rfl rfl xi) ?_
 refine rg_q (q_a rfl) (rg_q (q_a rfl) ?_)
 refine rs (xa 23 ?_)
 refine rg_q (q_m rfl) (rg_q (q_fieldAddr fld209_0 rfl) (rg_q (q_fieldAddr fld207_5 rfl) (rg_q (q_load sz3 rfl rfl) ?_)))
 refine rg_q (q_mul rfl rfl xi) ?_
 refine rg_q (q_m rfl) ?_
 refine rg_q (q_mul rfl rfl xi) ?_
 refine rg_q (q_fieldAddr fld209_0 rfl) (rg_q (q_fieldAddr fld207_5 rfl) (rg_q (q_load sz3 rfl rfl) ?_))
 refine rg_q (q_mul rfl rfl xi) ?_
 refine rg_q (q_m rfl) (rg_q (q_m rfl) ?_)
 refine rg_q (q_mul rfl rfl xi) ?_
 refine rg_q (q_fieldAddr fld209_0 rfl) (rg_q (q_fieldAddr fld207_4 rfl) (rg_q (q_load sz3 rfl rfl) (rg_q (q_fieldAddr fld209_0 rfl) (rg_q (q_fieldAddr fld207_4 rfl) (rg_q (q_load sz3 rfl rfl) ?_)))))
 refine rg_q (q_mul rfl rfl xi) ?_
 refine rg_q (q_add rfl rfl xi) ?_
 refine rg_q (q_call en179 (.cons rfl (.cons rfl .nil)) rfl (times_p _ _ (by omega) (by omega) (by omega) (by omega))) ?_
 refine rg_nil ?_
 refine aops_alloc zr253 rfl rfl rfl ?_
 refine aops_store sz253 rfl rfl (by exact .inr ⟨_, rfl⟩) rfl rfl (by decide) rfl ?_
 refine aops_nil (xq (xa 23 ?_))
 refine rg_q (q_m rfl) (rg_q (q_fieldAddr fld209_0 rfl) (rg_q (q_fieldAddr fld207_2 rfl) (rg_q (q_load sz3 rfl rfl) ?_)))
 refine rg_q (q_mul rfl rfl xi) ?_
 refine rg_q (q_m rfl) ?_
 refine rg_q (q_mul rfl rfl xi) ?_
 refine rg_q (q_fieldAddr fld209_0 rfl) (rg_q (q_fieldAddr fld207_2 rfl) (rg_q (q_load sz3 rfl rfl) ?_))
 refine rg_q (q_mul rfl rfl xi) ?_
 refine rg_q (q_m rfl) (rg_q (q_m rfl) ?_)
 refine rg_q (q_mul rfl rfl xi) ?_
 refine rg_q (q_fieldAddr fld209_0 rfl) (rg_q (q_fieldAddr fld207_1 rfl) (rg_q (q_load sz3 rfl rfl) (rg_q (q_fieldAddr fld209_0 rfl) (rg_q (q_fieldAddr fld207_1 rfl) (rg_q (q_load sz3 rfl rfl) ?_)))))
 refine rg_q (q_mul rfl rfl xi) ?_
 refine rg_q (q_add rfl rfl xi) ?_
 refine rg_q (q_call en179 (.cons rfl (.cons rfl .nil)) rfl (times_p _ _ (by omega) (by omega) (by omega) (by omega))) ?_
 refine rg_nil ?_
 refine aops_alloc zr253 rfl rfl rfl ?_
 refine aops_store sz253 rfl rfl (by exact .inr ⟨_, rfl⟩) rfl rfl (by decide) rfl ?_
 refine aops_nil (xq (xa 4 ?_))
 refine rg_q (q_load_refA (ds := [_, _]) sz253 rfl rfl rfl rfl) ?_
 refine rg_q (q_load_refA (ds := [_, _]) sz253 rfl rfl rfl rfl) ?_
 refine rg_q (q_call en180 (.cons rfl (.cons rfl .nil)) rfl (compare_p (oneI x t) (twoI x t))) ?_
 refine rg_q (q_a rfl) ?_
 refine rs (awp_seq ?_)
 refine xa 7 ?_
 refine rg_q (q_fieldAddr fld209_0 rfl) (rg_q (q_fieldAddr fld207_3 rfl) (rg_q (q_load sz3 rfl rfl) (rg_q (q_fieldAddr fld209_0 rfl) (rg_q (q_fieldAddr fld207_0 rfl) (rg_q (q_load sz3 rfl rfl) ?_)))))
 refine rg_q (q_lss rfl rfl) ?_
 refine xc (awp_cond rfl (fun hc5 => ?_) (fun hc5 => ?_))
 ·
  (try simp only [nb, ne_eq] at hc5)
  have hz : slopeI x t = -(sgnI (oneI x t) (twoI x t)) := by unfold slopeI; rw [if_pos hc5]
  refine xa 3 ?_
  refine rg_q (q_m rfl) ?_
  refine rg_q (q_neg rfl xi) ?_
  refine rg_q (q_a rfl) ?_
  refine rs (xa 2 ?_)
  refine rg_q (q_m rfl) (rg_q (q_a rfl) ?_)
  refine xc (awp_ret ?_)
  refine ⟨_, xk1, ?_⟩
  rw [hz]; rfl
 ·
  (try simp only [nb, ne_eq] at hc5)
  have hz : slopeI x t = sgnI (oneI x t) (twoI x t) := by unfold slopeI; rw [if_neg (by omega)]
  refine awp_skip ?_
  change Awp _ _ _ _ _
  refine awp_seq ?_
  refine xa 2 ?_
  refine rg_q (q_m rfl) (rg_q (q_a rfl) ?_)
  refine xc (awp_ret ?_)
  refine ⟨_, xk1, ?_⟩
  rw [hz]; rfl
theorem ends_p (x : Crs) : PC Tryz.prog 164 [.agg (crsC x)] (.tup [.v (.int .i64 (loX x)), .v (.int .i64 (hiX x))]) := by
 refine pc_of_awp Tryz.func164 rfl Tryz.ntmps164 (rs := [.tmp 2, .tmp 3]) Tryz.results164 (by simp) fun w0 => ?_
 refine awp_seq ?_
 refine xa 3 ?_
 refine rg_q (q_box rfl (by exact .inr ⟨_, rfl⟩)) ?_
 refine rg_q (q_a rfl) (rg_q (q_a rfl) ?_)
 refine rs (xa 16 ?_)
 refine rg_q (q_fieldAddr fld209_0 rfl) (rg_q (q_fieldAddr fld207_0 rfl) (rg_q (q_load sz3 rfl rfl) (rg_q (q_fieldAddr fld209_0 rfl) (rg_q (q_fieldAddr fld207_3 rfl) (rg_q (q_load sz3 rfl rfl) ?_)))))
 refine rg_q (q_min rfl rfl) ?_
 refine rg_q (q_fieldAddr fld209_0 rfl) (rg_q (q_fieldAddr fld207_0 rfl) (rg_q (q_load sz3 rfl rfl) (rg_q (q_fieldAddr fld209_0 rfl) (rg_q (q_fieldAddr fld207_3 rfl) (rg_q (q_load sz3 rfl rfl) ?_)))))
 refine rg_q (q_max rfl rfl) ?_
 refine rg_q (q_a rfl) (rg_q (q_a rfl) ?_)
 refine xc (awp_ret ?_)
 refine ⟨_, xk2, ?_⟩
 rfl
theorem has_p (x : Crs) (t : Int) : PC Tryz.prog 151 [.agg (crsC x), .v (.int .i64 (t))] (.v (.bool (inR (loX x) t (hiX x)))) := by
 refine pc_of_awp Tryz.func151 rfl Tryz.ntmps151 (rs := [.tmp 4]) Tryz.results151 (by simp) fun w0 => ?_
 refine awp_seq ?_
 refine xa 2 ?_
 refine rg_q (q_box rfl (by exact .inr ⟨_, rfl⟩)) ?_
 refine rg_q (q_a rfl) ?_
 refine rs (xa 7 ?_)
 refine rg_q (q_loadA (ds := [_, _, _, _, _, _]) sz209 rfl rfl rfl) ?_
 refine rg_q (q_call en164 (.cons rfl .nil) rfl (ends_p _)) ?_
 refine rg_q (q_move (x := .d (.tup _)) rfl) (rg_q (q_extract rfl rfl) (rg_q (q_extract rfl rfl) (rg_q (q_a rfl) (rg_q (q_a rfl) ?_))))
 refine rs (xa 5 ?_)
 refine rg_q (q_m rfl) (rg_q (q_m rfl) (rg_q (q_m rfl) ?_))
 refine rg_q (q_call en114 (.cons rfl (.cons rfl (.cons rfl .nil))) rfl (rwithin_p _ _ _)) ?_
 refine rg_q (q_a rfl) ?_
 refine xc (awp_ret ?_)
 refine ⟨_, xk1, ?_⟩
 rfl
theorem cross1_p (x : Crs) (n : Int) (hx : CrsOk x) (h1 : 0 ≤ n) (h2 : n < hiX x - loX x + 1) : PC Tryz.prog 166 [.v (.int .i64 (n)), .pt (crsC x) 0, .pt [.v (.int .i64 (loX x))] 0] (.v (.bool (decide (0 < slopeI x (loX x + n))))) := by
 have hx0 := hx
 obtain ⟨a1, a2, b1, b2, c1, c2, d1, d2, e1, e2, f1, f2⟩ := hx0
 have hl : -100000 ≤ loX x ∧ hiX x ≤ 100000 := by unfold loX hiX; omega
 refine pc_of_awp Tryz.func166 rfl Tryz.ntmps166 (rs := [.tmp 4]) Tryz.results166 (by simp) fun w0 => ?_
 refine awp_seq ?_
 refine xa 1 ?_
 refine rg_q (q_a rfl) ?_
 refine rs (xa 7 ?_)
 refine rg_q (q_loadA (ds := [_, _, _, _, _, _]) sz209 rfl rfl rfl) ?_
 refine rg_q (q_load sz3 rfl rfl) (rg_q (q_m rfl) ?_)
 refine rg_q (q_add rfl rfl xi) ?_
 refine rg_q (q_call en167 (.cons rfl (.cons rfl .nil)) rfl (slope_p _ _ hx (by omega) (by omega))) ?_
 refine rg_q (q_gtr rfl rfl) (rg_q (q_a rfl) ?_)
 refine xc (awp_ret ?_)
 refine ⟨_, xk1, ?_⟩
 rfl
theorem crossing_p (x : Crs) (hx : CrsOk x) : PC Tryz.prog 149 [.agg (crsC x)] (.v (.int .i64 (crossI x))) := by
 have hx0 := hx
 obtain ⟨a1, a2, b1, b2, c1, c2, d1, d2, e1, e2, f1, f2⟩ := hx0
 have hl : -100000 ≤ loX x ∧ loX x ≤ hiX x ∧ hiX x ≤ 100000 := by unfold loX hiX; omega
 have hs := cross_spec hx
 have hcr : crossI x = loX x - 1 + srch (fun n => decide (0 < slopeI x (loX x + n))) (hiX x - loX x + 1) := rfl
 refine pc_of_awpN Tryz.func149 rfl Tryz.ntmps149 (rs := [.tmp 2]) Tryz.results149 (by simp) fun w0 hmine hrnd hpn => ?_
 refine awp_seq ?_
 refine xa 2 ?_
 refine rg_q (q_box rfl (by exact .inr ⟨_, rfl⟩)) ?_
 refine rg_q (q_a rfl) ?_
 refine rs (xa 5 ?_)
 refine rg_q (q_loadA (ds := [_, _, _, _, _, _]) sz209 rfl rfl rfl) ?_
 refine rg_q (q_call en164 (.cons rfl .nil) rfl (ends_p _)) ?_
 refine rg_q (q_move (x := .d (.tup _)) rfl) (rg_q (q_extract rfl rfl) (rg_q (q_extract rfl rfl) ?_))
 refine rg_nil ?_
 refine aops_alloc zr3 rfl rfl rfl ?_
 refine aops_store sz3 rfl rfl (by exact .inl rfl) rfl rfl (by decide) rfl ?_
 refine aops_q rfl (q_a rfl) ?_
 refine aops_nil (xq ?_)
 refine Awp.le (le_freeze 3 3 0 (cs := [.v (.int .i64 (loX x))]) rfl rfl rfl rfl hmine) ?_
 refine xa 10 ?_
 refine rg_q (q_load sz3 rfl rfl) ?_
 refine rg_q (q_sub rfl rfl xi) ?_
 refine rg_q (q_m rfl) (rg_q (q_load sz3 rfl rfl) ?_)
 refine rg_q (q_sub rfl rfl xi) ?_
 refine rg_q (q_add rfl rfl xi) ?_
 refine rg_q (q_makeFunc (.cons rfl (.cons rfl .nil))) ?_
 refine rg_q (q_call en165 (.cons rfl (.cons rfl .nil)) rfl (search_p (fun n => decide (0 < slopeI x (loX x + n))) 166 [.pt (crsC x) 0, .pt [.v (.int .i64 (loX x))] 0] en166 (hiX x - loX x + 1) (by omega) (fun h a b => cross1_p x h hx a b))) ?_
 refine rg_q (q_add rfl rfl xi) ?_
 refine rg_q (q_a rfl) ?_
 refine xc (awp_ret ?_)
 refine ⟨_, xk1, ?_⟩
 rfl

structure TimIn (r : Rg) : Prop where
  a : 0 ≤ r.1
  b : r.1 ≤ 20000000000
  c : 0 ≤ r.2
  d : r.2 ≤ 20000000000
theorem tim_in {r : Rg} {v : Int} (hr : LenIn r) (h1 : 500 ≤ v) : 0 ≤ (timI r v).1 ∧ (timI r v).1 ≤ 8000000000 ∧ 0 ≤ (timI r v).2 ∧ (timI r v).2 ≤ 8000000000 := by
  obtain ⟨a, b, c, d, e⟩ := hr
  have hv : 0 < v := by omega
  have k : ∀ n : Int, 0 ≤ n → n ≤ 400000000 → 0 ≤ n * 10000 / v ∧ n * 10000 / v ≤ 8000000000 := fun n h0 h2 => by
    refine ⟨Int.ediv_nonneg (by omega) (by omega), ?_⟩
    have := Int.ediv_le_ediv hv (show n * 10000 ≤ 8000000000 * v by omega)
    rwa [Int.mul_ediv_cancel _ (by omega)] at this
  have k2 : ∀ n : Int, 0 ≤ n → n ≤ 400000000 → 0 ≤ ceilI (n * 10000) v ∧ ceilI (n * 10000) v ≤ 8000000000 := fun n h0 h2 => by
    unfold ceilI
    constructor
    · have := Int.ediv_le_ediv hv (show -(n * 10000) ≤ 0 by omega)
      rw [Int.zero_ediv] at this; omega
    · have := Int.ediv_le_ediv hv (show (-8000000000) * v ≤ -(n * 10000) by omega)
      rw [Int.mul_ediv_cancel _ (by omega)] at this; omega
  unfold timI
  exact ⟨(k _ a b).1, (k _ a b).2, (k2 _ c d).1, (k2 _ c d).2⟩
theorem timeAt_in {x : Crs} {t : Int} (hx : CrsOk x) (h1 : -100000 ≤ t) (h2 : t ≤ 100000) : TimIn (timeAtI x t) := by
  obtain ⟨a1, a2, b1, b2, c1, c2, d1, d2, e1, e2, f1, f2⟩ := hx
  obtain ⟨p1, p2, p3, p4⟩ := tim_in (len_in (x := t - x.x1) (z := x.h1) (by omega) (by omega) (by omega) (by omega)) e1
  obtain ⟨q1, q2, q3, q4⟩ := tim_in (len_in (x := x.x2 - t) (z := x.h2) (by omega) (by omega) (by omega) (by omega)) f1
  unfold timeAtI
  exact ⟨by simp only; omega, by simp only; omega, by simp only; omega, by simp only; omega⟩
theorem timeAt_p (x : Crs) (t : Int) (hx : CrsOk x) (h1 : -100000 ≤ t) (h2 : t ≤ 100000) : PC Tryz.prog 150 [.agg (crsC x), .v (.int .i64 (t))] (.agg [.v (.int .i64 ((timeAtI x t).1)), .v (.int .i64 ((timeAtI x t).2))]) := by
 obtain ⟨a1, a2, b1, b2, c1, c2, d1, d2, e1, e2, f1, f2⟩ := hx
 have l1 := len_in (x := t - x.x1) (z := x.h1) (by omega) (by omega) (by omega) (by omega)
 have l2 := len_in (x := x.x2 - t) (z := x.h2) (by omega) (by omega) (by omega) (by omega)
 obtain ⟨p1, p2, p3, p4⟩ := tim_in l1 e1
 obtain ⟨q1, q2, q3, q4⟩ := tim_in l2 f1
 refine pc_of_awp Tryz.func150 rfl Tryz.ntmps150 (rs := [.cell 4 187]) Tryz.results150 (by simp) fun w0 => ?_
 refine awp_seq ?_
 refine xa 1 ?_
 refine rg_q (q_box rfl (by exact .inr ⟨_, rfl⟩)) ?_
 refine rg_nil ?_
 refine aops_alloc zr187 rfl rfl rfl ?_
 refine aops_nil (xq (xa 27 ?_))
 refine rg_q (q_m rfl) (rg_q (q_fieldAddr fld209_0 rfl) (rg_q (q_fieldAddr fld207_0 rfl) (rg_q (q_load sz3 rfl rfl) ?_)))
 refine rg_q (q_sub rfl rfl xi) ?_
 refine rg_q (q_fieldAddr fld209_0 rfl) (rg_q (q_fieldAddr fld207_1 rfl) (rg_q (q_load sz3 rfl rfl) ?_))
 refine rg_q (q_call en170 (.cons rfl (.cons rfl .nil)) rfl (length_p _ _ (by omega) (by omega) (by omega) (by omega))) ?_
 refine rg_q (q_fieldAddr fld209_0 rfl) (rg_q (q_fieldAddr fld207_2 rfl) (rg_q (q_load sz3 rfl rfl) ?_))
 refine rg_q (q_call en169 (.cons rfl (.cons rfl .nil)) rfl (time_p (lenI (t - x.x1) x.h1) x.v1 l1 e1)) ?_
 refine rg_q (q_fieldAddr fld209_0 rfl) (rg_q (q_fieldAddr fld207_3 rfl) (rg_q (q_load sz3 rfl rfl) (rg_q (q_m rfl) ?_)))
 refine rg_q (q_sub rfl rfl xi) ?_
 refine rg_q (q_fieldAddr fld209_0 rfl) (rg_q (q_fieldAddr fld207_4 rfl) (rg_q (q_load sz3 rfl rfl) ?_))
 refine rg_q (q_call en170 (.cons rfl (.cons rfl .nil)) rfl (length_p _ _ (by omega) (by omega) (by omega) (by omega))) ?_
 refine rg_q (q_fieldAddr fld209_0 rfl) (rg_q (q_fieldAddr fld207_5 rfl) (rg_q (q_load sz3 rfl rfl) ?_))
 refine rg_q (q_call en169 (.cons rfl (.cons rfl .nil)) rfl (time_p (lenI (x.x2 - t) x.h2) x.v2 l2 f1)) ?_
 refine rg_q (q_call en168 (.cons rfl (.cons rfl .nil)) rfl (plus_p (timI (lenI (t - x.x1) x.h1) x.v1) (timI (lenI (x.x2 - t) x.h2) x.v2) (by omega) (by omega) (by omega) (by omega) (by omega) (by omega) (by omega) (by omega))) ?_
 refine rg_nil ?_
 refine aops_store sz187 rfl rfl (by exact .inr ⟨_, rfl⟩) rfl rfl (by decide) rfl ?_
 refine aops_nil ?_
 change Awp _ _ _ _ _
 refine awp_ret ?_
 refine ⟨_, (.cons (.cellA rfl rfl sz187 rfl) .nil), ?_⟩
 rfl

theorem up_in {n d : Int} (hn : 0 ≤ n) (hd : 0 < d) : 0 ≤ ceilI n d ∧ ceilI n d ≤ n := by
  unfold ceilI
  have h1 := Int.ediv_le_ediv hd (show -n ≤ 0 by omega)
  rw [Int.zero_ediv] at h1
  refine ⟨by omega, ?_⟩
  have h2 : (-n) ≤ (-n) / d := by
    rw [Int.le_ediv_iff_mul_le hd]
    have := Int.mul_le_mul_of_nonneg_left (show (1 : Int) ≤ d by omega) hn
    grind
  omega
theorem least_in {x : Crs} (hx : CrsOk x) : TimIn (leastI x) := by
  have hs := cross_spec hx
  have hx0 := hx
  obtain ⟨a1, a2, b1, b2, c1, c2, d1, d2, e1, e2, f1, f2⟩ := hx0
  have hl : -100000 ≤ loX x ∧ hiX x ≤ 100000 := by unfold loX hiX; omega
  obtain ⟨p1, p2, p3, p4⟩ := timeAt_in (t := crossI x) hx (by omega) (by omega)
  have u1 := up_in (n := 10000000) (d := x.v1 * x.h1) (by omega) (Int.mul_pos (by omega) (by omega))
  have u2 := up_in (n := 10000000) (d := x.v2 * x.h2) (by omega) (Int.mul_pos (by omega) (by omega))
  have h0 : 0 ≤ (least0 x).1 ∧ (least0 x).1 ≤ 20000000000 ∧ 0 ≤ (least0 x).2 ∧ (least0 x).2 ≤ 20000000000 := by
    unfold least0
    split
    · rename_i h
      simp [inR] at h
      obtain ⟨q1, q2, q3, q4⟩ := timeAt_in (t := crossI x + 1) hx (by omega) (by omega)
      simp only; omega
    · omega
  unfold leastI
  exact ⟨by simp only; omega, by simp only; omega, by simp only; omega, by simp only; omega⟩
theorem least_p (x : Crs) (hx : CrsOk x) : PC Tryz.prog 132 [.agg (crsC x)] (.agg [.v (.int .i64 ((leastI x).1)), .v (.int .i64 ((leastI x).2))]) := by
 have hs := cross_spec hx
 have hx0 := hx
 obtain ⟨a1, a2, b1, b2, c1, c2, d1, d2, e1, e2, f1, f2⟩ := hx0
 have hl : -100000 ≤ loX x ∧ hiX x ≤ 100000 := by unfold loX hiX; omega
 obtain ⟨p1, p2, p3, p4⟩ := timeAt_in (t := crossI x) hx (by omega) (by omega)
 have m1 := mulb (a := x.v1) (b := x.h1) (A := 10000) (B := 100000) (by omega) (by omega) (by omega) (by omega)
 have m2 := mulb (a := x.v2) (b := x.h2) (A := 10000) (B := 100000) (by omega) (by omega) (by omega) (by omega)
 have m3 := Int.mul_pos (show 0 < x.v1 by omega) (show 0 < x.h1 by omega)
 have m4 := Int.mul_pos (show 0 < x.v2 by omega) (show 0 < x.h2 by omega)
 have u1 := up_in (n := 10000000) (d := x.v1 * x.h1) (by omega) m3
 have u2 := up_in (n := 10000000) (d := x.v2 * x.h2) (by omega) m4
 refine pc_of_awp Tryz.func132 rfl Tryz.ntmps132 (rs := [.cell 2 187]) Tryz.results132 (by simp) fun w0 => ?_
 refine awp_seq ?_
 refine xa 1 ?_
 refine rg_q (q_box rfl (by exact .inr ⟨_, rfl⟩)) ?_
 refine rg_nil ?_
 refine aops_alloc zr187 rfl rfl rfl ?_
 refine aops_nil (xq (xa 3 ?_))
 refine rg_q (q_loadA (ds := [_, _, _, _, _, _]) sz209 rfl rfl rfl) ?_
 refine rg_q (q_call en149 (.cons rfl .nil) rfl (crossing_p _ hx)) ?_
 refine rg_q (q_a rfl) ?_
 refine rs (xa 3 ?_)
 refine rg_q (q_loadA (ds := [_, _, _, _, _, _]) sz209 rfl rfl rfl) ?_
 refine rg_q (q_m rfl) ?_
 refine rg_q (q_call en150 (.cons rfl (.cons rfl .nil)) rfl (timeAt_p _ _ hx (by omega) (by omega))) ?_
 refine rg_nil ?_
 refine aops_alloc zr187 rfl rfl rfl ?_
 refine aops_store sz187 rfl rfl (by exact .inr ⟨_, rfl⟩) rfl rfl (by decide) rfl ?_
 refine aops_nil (xq (awp_seq ?_))
 refine xa 4 ?_
 refine rg_q (q_loadA (ds := [_, _, _, _, _, _]) sz209 rfl rfl rfl) ?_
 refine rg_q (q_m rfl) ?_
 refine rg_q (q_add rfl rfl xi) ?_
 refine rg_q (q_call en151 (.cons rfl (.cons rfl .nil)) rfl (has_p _ _)) ?_
 refine xc (awp_cond rfl (fun hc3 => ?_) (fun hc3 => ?_))
 ·
  (try simp only [nb, ne_eq] at hc3)
  have hz : least0 x = (min (timeAtI x (crossI x)).1 (timeAtI x (crossI x + 1)).1, min (timeAtI x (crossI x)).2 (timeAtI x (crossI x + 1)).2) := by unfold least0; rw [if_pos hc3]
  have hc3' := hc3
  simp [inR] at hc3'
  obtain ⟨q1, q2, q3, q4⟩ := timeAt_in (t := crossI x + 1) hx (by omega) (by omega)
  refine awp_seq ?_
  refine xa 4 ?_
  refine rg_q (q_loadA (ds := [_, _, _, _, _, _]) sz209 rfl rfl rfl) ?_
  refine rg_q (q_m rfl) ?_
  refine rg_q (q_add rfl rfl xi) ?_
  refine rg_q (q_call en150 (.cons rfl (.cons rfl .nil)) rfl (timeAt_p _ _ hx (by omega) (by omega))) ?_
  refine rg_nil ?_
  refine aops_alloc zr187 rfl rfl rfl ?_
  refine aops_store sz187 rfl rfl (by exact .inr ⟨_, rfl⟩) rfl rfl (by decide) rfl ?_
  refine aops_nil ?_
  change Awp _ _ _ _ _
  refine xa 11 ?_
  refine rg_q (q_fieldAddr_ref fld187_0 rfl) (rg_q (q_load_ref sz3 rfl rfl rfl) (rg_q (q_fieldAddr_ref fld187_0 rfl) (rg_q (q_load_ref sz3 rfl rfl rfl) ?_)))
  refine rg_q (q_min rfl rfl) ?_
  refine rg_q (q_fieldAddr_ref fld187_1 rfl) (rg_q (q_load_ref sz3 rfl rfl rfl) (rg_q (q_fieldAddr_ref fld187_1 rfl) (rg_q (q_load_ref sz3 rfl rfl rfl) ?_)))
  refine rg_q (q_min rfl rfl) ?_
  refine rg_q (q_build (cs := [_, _]) pl187 zr187 rfl (.cons rfl (by exact .inl rfl) (.cons rfl (by exact .inl rfl) .nil)) ⟨⟨rfl, by decide⟩, ⟨rfl, by decide⟩, trivial⟩ rfl) ?_
  refine rg_nil ?_
  refine aops_store sz187 rfl rfl (by exact .inr ⟨_, rfl⟩) rfl rfl (by exact Nat.le_of_ble_eq_true rfl) rfl ?_
  refine aops_nil (xq (xa 22 ?_))
  refine rg_q (q_fieldAddr_ref fld187_0 rfl) (rg_q (q_load_ref sz3 rfl rfl rfl) (rg_q (q_fieldAddr fld209_0 rfl) (rg_q (q_fieldAddr fld207_2 rfl) (rg_q (q_load sz3 rfl rfl) (rg_q (q_fieldAddr fld209_0 rfl) ?_)))))
  refine rg_q (q_fieldAddr fld207_1 rfl) (rg_q (q_load sz3 rfl rfl) ?_)
  refine rg_q (q_mul rfl rfl xi) ?_
  refine rg_q (q_call en152 (.cons rfl (.cons rfl .nil)) rfl (up_p _ _ ⟨by omega, by omega⟩ (by omega))) ?_
  refine rg_q (q_sub rfl rfl xi) ?_
  refine rg_q (q_fieldAddr fld209_0 rfl) (rg_q (q_fieldAddr fld207_5 rfl) (rg_q (q_load sz3 rfl rfl) (rg_q (q_fieldAddr fld209_0 rfl) (rg_q (q_fieldAddr fld207_4 rfl) (rg_q (q_load sz3 rfl rfl) ?_)))))
  refine rg_q (q_mul rfl rfl xi) ?_
  refine rg_q (q_call en152 (.cons rfl (.cons rfl .nil)) rfl (up_p _ _ ⟨by omega, by omega⟩ (by omega))) ?_
  refine rg_q (q_sub rfl rfl xi) ?_
  refine rg_q (q_max rfl rfl) ?_
  refine rg_q (q_fieldAddr_ref fld187_0 rfl) ?_
  refine rg_nil ?_
  refine aops_store sz3 rfl rfl (by exact .inl rfl) rfl rfl (by exact Nat.le_of_ble_eq_true rfl) rfl ?_
  refine aops_nil (xq (xa 1 ?_))
  refine rg_q (q_load_refA (ds := [_, _]) sz187 rfl rfl rfl rfl) ?_
  refine rg_nil ?_
  refine aops_store sz187 rfl rfl (by exact .inr ⟨_, rfl⟩) rfl rfl (by decide) rfl ?_
  refine aops_nil ?_
  change Awp _ _ _ _ _
  refine awp_ret ?_
  refine ⟨_, (.cons (.cellA rfl rfl sz187 rfl) .nil), ?_⟩
  unfold leastI; rw [hz]; rfl
 ·
  (try simp only [nb, ne_eq] at hc3)
  have hz : least0 x = timeAtI x (crossI x) := by unfold least0; rw [if_neg (by simpa using hc3)]
  refine awp_skip ?_
  change Awp _ _ _ _ _
  refine awp_seq ?_
  refine xa 22 ?_
  refine rg_q (q_fieldAddr_ref fld187_0 rfl) (rg_q (q_load_ref sz3 rfl rfl rfl) (rg_q (q_fieldAddr fld209_0 rfl) (rg_q (q_fieldAddr fld207_2 rfl) (rg_q (q_load sz3 rfl rfl) (rg_q (q_fieldAddr fld209_0 rfl) ?_)))))
  refine rg_q (q_fieldAddr fld207_1 rfl) (rg_q (q_load sz3 rfl rfl) ?_)
  refine rg_q (q_mul rfl rfl xi) ?_
  refine rg_q (q_call en152 (.cons rfl (.cons rfl .nil)) rfl (up_p _ _ ⟨by omega, by omega⟩ (by omega))) ?_
  refine rg_q (q_sub rfl rfl xi) ?_
  refine rg_q (q_fieldAddr fld209_0 rfl) (rg_q (q_fieldAddr fld207_5 rfl) (rg_q (q_load sz3 rfl rfl) (rg_q (q_fieldAddr fld209_0 rfl) (rg_q (q_fieldAddr fld207_4 rfl) (rg_q (q_load sz3 rfl rfl) ?_)))))
  refine rg_q (q_mul rfl rfl xi) ?_
  refine rg_q (q_call en152 (.cons rfl (.cons rfl .nil)) rfl (up_p _ _ ⟨by omega, by omega⟩ (by omega))) ?_
  refine rg_q (q_sub rfl rfl xi) ?_
  refine rg_q (q_max rfl rfl) ?_
  refine rg_q (q_fieldAddr_ref fld187_0 rfl) ?_
  refine rg_nil ?_
  refine aops_store sz3 rfl rfl (by exact .inl rfl) rfl rfl (by exact Nat.le_of_ble_eq_true rfl) rfl ?_
  refine aops_nil (xq (xa 1 ?_))
  refine rg_q (q_load_refA (ds := [_, _]) sz187 rfl rfl rfl rfl) ?_
  refine rg_nil ?_
  refine aops_store sz187 rfl rfl (by exact .inr ⟨_, rfl⟩) rfl rfl (by decide) rfl ?_
  refine aops_nil ?_
  change Awp _ _ _ _ _
  refine awp_ret ?_
  refine ⟨_, (.cons (.cellA rfl rfl sz187 rfl) .nil), ?_⟩
  unfold leastI; rw [hz]; rfl
end Go.Proofs.YtkbdnkjjklbddaaGreatDoor.Am.M
-- mini
set_option maxRecDepth 100000
namespace Go.Proofs.YtkbdnkjjklbddaaGreatDoor.Am.M
open Go

structure Md where
  w : Int
  m : Int
  k : Int
  t : Int
def mdC (x : Md) : List D := [.v (.int .i64 x.w), .v (.int .i64 x.m), .v (.int .i64 x.k), .v (.int .i64 x.t)]
def speedE (v : Int) : Int := mustI (inR 500 v 10000) 2
def modeE (m : Md) : Int := firstE [speedE m.w, speedE m.m, mustI (inR 0 m.k 4 && inR 2 m.t 20000) 2]
def spotB (p : Int × Int) : Bool := inR (-100000) p.1 100000 && inR (-100000) p.2 100000
def spotE (p : Int × Int) : Int := mustI (spotB p) 2
theorem must_zero {b : Bool} {e : Int} (he : e ≠ 0) : mustI b e = 0 ↔ b = true := by unfold mustI; split <;> simp_all
theorem first_zero : ∀ {l : List Int}, firstE l = 0 ↔ ∀ x ∈ l, x = 0
  | [] => by simp [firstE]
  | x :: xs => by
    unfold firstE
    by_cases h : x = 0
    · rw [if_pos h, first_zero]; simp [h]
    · rw [if_neg h]; simp [h]
structure MdOk (m : Md) : Prop where
  w1 : 500 ≤ m.w
  w2 : m.w ≤ 10000
  m1 : 500 ≤ m.m
  m2 : m.m ≤ 10000
  k1 : 0 ≤ m.k
  k2 : m.k ≤ 4
  t1 : 2 ≤ m.t
  t2 : m.t ≤ 20000
theorem mode_ok {m : Md} : modeE m = 0 ↔ MdOk m := by
  unfold modeE speedE
  rw [first_zero]
  simp only [List.mem_cons, List.not_mem_nil, or_false, forall_eq_or_imp, forall_eq, must_zero (show (2 : Int) ≠ 0 by omega), inR, Bool.and_eq_true, decide_eq_true_eq]
  exact ⟨fun ⟨⟨a, b⟩, ⟨c, d⟩, ⟨e, f⟩, g, h⟩ => ⟨a, b, c, d, e, f, g, h⟩, fun ⟨a, b, c, d, e, f, g, h⟩ => ⟨⟨a, b⟩, ⟨c, d⟩, ⟨e, f⟩, g, h⟩⟩
theorem spot_ok {p : Int × Int} : spotE p = 0 ↔ (-100000 ≤ p.1 ∧ p.1 ≤ 100000) ∧ -100000 ≤ p.2 ∧ p.2 ≤ 100000 := by
  unfold spotE spotB
  rw [must_zero (by omega)]
  simp [inR]
theorem isThick_p (n : Int) : PC Tryz.prog 115 [.v (.int .i64 (n))] (.v (.bool (inR 2 n 20000))) := by
 refine pc_of_awp Tryz.func115 rfl Tryz.ntmps115 (rs := [.tmp 2]) Tryz.results115 (by simp) fun w0 => ?_
 refine awp_seq ?_
 refine xa 1 ?_
 refine rg_q (q_a rfl) ?_
 refine rs (xa 3 ?_)
 refine rg_q (q_m rfl) ?_
 refine rg_q (q_call en114 (.cons rfl (.cons rfl (.cons rfl .nil))) rfl (rwithin_p _ _ _)) ?_
 refine rg_q (q_a rfl) ?_
 refine xc (awp_ret ?_)
 refine ⟨_, xk1, ?_⟩
 rfl
theorem speedErr_p (v : Int) : PC Tryz.prog 112 [.v (.int .i64 (v))] (.v (.int .i64 (speedE v))) := by
 refine pc_of_awp Tryz.func112 rfl Tryz.ntmps112 (rs := [.tmp 2]) Tryz.results112 (by simp) fun w0 => ?_
 refine awp_seq ?_
 refine xa 1 ?_
 refine rg_q (q_a rfl) ?_
 refine rs (xa 4 ?_)
 refine rg_q (q_m rfl) ?_
 refine rg_q (q_call en114 (.cons rfl (.cons rfl (.cons rfl .nil))) rfl (rwithin_p _ _ _)) ?_
 refine rg_q (q_call en113 (.cons rfl (.cons rfl .nil)) rfl (must_p _ _)) ?_
 refine rg_q (q_a rfl) ?_
 refine xc (awp_ret ?_)
 refine ⟨_, xk1, ?_⟩
 rfl
theorem checkMode_p (m : Md) : PC Tryz.prog 94 [.agg (mdC m)] (.v (.int .i64 (modeE m))) := by
 refine pc_of_awp Tryz.func94 rfl Tryz.ntmps94 (rs := [.tmp 2]) Tryz.results94 (by simp) fun w0 => ?_
 refine awp_seq ?_
 refine xa 2 ?_
 refine rg_q (q_box rfl (by exact .inr ⟨_, rfl⟩)) ?_
 refine rg_q (q_a rfl) ?_
 refine rs (xa 18 ?_)
 refine rg_q (q_fieldAddr fld24_0 rfl) (rg_q (q_load sz3 rfl rfl) ?_)
 refine rg_q (q_call en112 (.cons rfl .nil) rfl (speedErr_p _)) ?_
 refine rg_q (q_fieldAddr fld24_1 rfl) (rg_q (q_load sz3 rfl rfl) ?_)
 refine rg_q (q_call en112 (.cons rfl .nil) rfl (speedErr_p _)) ?_
 refine rg_q (q_fieldAddr fld24_2 rfl) (rg_q (q_load sz3 rfl rfl) ?_)
 refine rg_q (q_call en114 (.cons rfl (.cons rfl (.cons rfl .nil))) rfl (rwithin_p _ _ _)) ?_
 refine rg_q (q_m rfl) ?_
 refine rg_g rfl rfl (fun hG => (q_fieldAddr fld24_3 rfl)) ?_
 refine rg_g rfl rfl (fun hG => (q_load sz3 rfl rfl)) ?_
 refine rg_g rfl rfl (fun hG => (q_call en115 (.cons rfl .nil) rfl (isThick_p _))) ?_
 refine rg_pick rfl rfl rfl rfl rfl rfl ?_
 refine rg_q (q_call en113 (.cons rfl (.cons rfl .nil)) rfl (must_p _ _)) ?_
 refine rg_q (q_buildSlice sl160 zr40 rfl rfl (by decide) (.cons rfl (by exact .inl rfl) (.cons rfl (by exact .inl rfl) (.cons rfl (by exact .inl rfl) .nil))) ⟨rfl, rfl, rfl, rfl, rfl, rfl, trivial⟩ rfl (by decide) rfl) ?_
 refine rg_q (q_call en111 (.cons rfl .nil) rfl (rfirst_p [_, _, _])) ?_
 refine rg_q (q_a rfl) ?_
 refine xc (awp_ret ?_)
 refine ⟨_, xk1, ?_⟩
 simp only [bif_and]; rfl
theorem rspotErr_p (p : Int × Int) : PC Tryz.prog 162 [.agg (shC p)] (.v (.int .i64 (spotE p))) := by
 refine pc_of_awp Tryz.func162 rfl Tryz.ntmps162 (rs := [.tmp 2]) Tryz.results162 (by simp) fun w0 => ?_
 refine awp_seq ?_
 refine xa 2 ?_
 refine rg_q (q_box rfl (by exact .inr ⟨_, rfl⟩)) ?_
 refine rg_q (q_a rfl) ?_
 refine rs (xa 10 ?_)
 refine rg_q (q_fieldAddr fld37_0 rfl) (rg_q (q_load sz3 rfl rfl) ?_)
 refine rg_q (q_call en178 (.cons rfl (.cons rfl .nil)) rfl (rsmall_p _ _ (by omega) (by omega))) ?_
 refine rg_q (q_m rfl) ?_
 refine rg_g rfl rfl (fun hG => (q_fieldAddr fld37_1 rfl)) ?_
 refine rg_g rfl rfl (fun hG => (q_load sz3 rfl rfl)) ?_
 refine rg_g rfl rfl (fun hG => (q_call en178 (.cons rfl (.cons rfl .nil)) rfl (rsmall_p _ _ (by omega) (by omega)))) ?_
 refine rg_pick rfl rfl rfl rfl rfl rfl ?_
 refine rg_q (q_call en113 (.cons rfl (.cons rfl .nil)) rfl (must_p _ _)) ?_
 refine rg_q (q_a rfl) ?_
 refine xc (awp_ret ?_)
 refine ⟨_, xk1, ?_⟩
 simp only [bif_and]; rfl

def unfI (m : Md) (z : Int) : Int := if m.k.tmod 2 = 1 then m.k * m.t + (m.t - z) else m.k * m.t + z
theorem kt_bounds {m : Md} (h : MdOk m) : 0 ≤ m.k * m.t ∧ m.k * m.t ≤ 80000 := by
  obtain ⟨_, _, _, _, k1, k2, t1, t2⟩ := h
  have := mulb (a := m.k) (b := m.t) (A := 4) (B := 20000) (by omega) (by omega) (by omega) (by omega)
  exact ⟨Int.mul_nonneg k1 (by omega), by omega⟩
theorem unfolded_p (m : Md) (z : Int) (hm : MdOk m) (h1 : -100000 ≤ z) (h2 : z ≤ 100000) : PC Tryz.prog 163 [.agg (mdC m), .v (.int .i64 (z))] (.v (.int .i64 (unfI m z))) := by
 obtain ⟨b1, b2⟩ := kt_bounds hm
 obtain ⟨w1, w2, m1, m2, k1, k2, t1, t2⟩ := hm
 refine pc_of_awp Tryz.func163 rfl Tryz.ntmps163 (rs := [.tmp 4]) Tryz.results163 (by simp) fun w0 => ?_
 refine awp_seq ?_
 refine xa 2 ?_
 refine rg_q (q_box rfl (by exact .inr ⟨_, rfl⟩)) ?_
 refine rg_q (q_a rfl) ?_
 refine rs (awp_seq ?_)
 refine xa 4 ?_
 refine rg_q (q_fieldAddr fld24_2 rfl) (rg_q (q_load sz3 rfl rfl) ?_)
 refine rg_q (q_rem rfl rfl (by omega)) ?_
 refine rg_q (q_eql rfl rfl) ?_
 refine xc (awp_cond rfl (fun hc1 => ?_) (fun hc1 => ?_))
 ·
  (try simp only [nb, ne_eq] at hc1)
  have hz : unfI m z = m.k * m.t + (m.t - z) := by unfold unfI; rw [if_pos hc1]
  refine xa 5 ?_
  refine rg_q (q_fieldAddr fld24_3 rfl) (rg_q (q_load sz3 rfl rfl) (rg_q (q_m rfl) ?_))
  refine rg_q (q_sub rfl rfl xi) ?_
  refine rg_q (q_a rfl) ?_
  refine rs (xa 8 ?_)
  refine rg_q (q_fieldAddr fld24_2 rfl) (rg_q (q_load sz3 rfl rfl) (rg_q (q_fieldAddr fld24_3 rfl) (rg_q (q_load sz3 rfl rfl) ?_)))
  refine rg_q (q_mul rfl rfl xi) ?_
  refine rg_q (q_m rfl) ?_
  refine rg_q (q_add rfl rfl xi) ?_
  refine rg_q (q_a rfl) ?_
  refine xc (awp_ret ?_)
  refine ⟨_, xk1, ?_⟩
  rw [hz]; rfl
 ·
  (try simp only [nb, ne_eq] at hc1)
  have hz : unfI m z = m.k * m.t + z := by unfold unfI; rw [if_neg (by simpa using hc1)]
  refine awp_skip ?_
  change Awp _ _ _ _ _
  refine awp_seq ?_
  refine xa 8 ?_
  refine rg_q (q_fieldAddr fld24_2 rfl) (rg_q (q_load sz3 rfl rfl) (rg_q (q_fieldAddr fld24_3 rfl) (rg_q (q_load sz3 rfl rfl) ?_)))
  refine rg_q (q_mul rfl rfl xi) ?_
  refine rg_q (q_m rfl) ?_
  refine rg_q (q_add rfl rfl xi) ?_
  refine rg_q (q_a rfl) ?_
  refine xc (awp_ret ?_)
  refine ⟨_, xk1, ?_⟩
  rw [hz]; rfl

def wayE (m : Md) (a b : Int × Int) : Int := firstE [spotE a, spotE b, mustI (decide (a.2 < 0)) 15, mustI (inR 1 b.2 (m.t - 1)) 22]
def crs0 : Crs := ⟨0, 0, 0, 0, 0, 0⟩
def wayI (m : Md) (a b : Int × Int) : Crs × Int := if wayE m a b ≠ 0 then (crs0, wayE m a b) else if 100000 < unfI m b.2 then (crs0, 8) else (⟨a.1, -a.2, m.w, b.1, unfI m b.2, m.m⟩, 0)
theorem wayE_ok {m : Md} {a b : Int × Int} (h : wayE m a b = 0) : ((-100000 ≤ a.1 ∧ a.1 ≤ 100000) ∧ -100000 ≤ a.2 ∧ a.2 ≤ 100000) ∧ ((-100000 ≤ b.1 ∧ b.1 ≤ 100000) ∧ -100000 ≤ b.2 ∧ b.2 ≤ 100000) ∧ a.2 < 0 ∧ 1 ≤ b.2 ∧ b.2 ≤ m.t - 1 := by
  unfold wayE at h
  rw [first_zero] at h
  simp only [List.mem_cons, List.not_mem_nil, or_false, forall_eq_or_imp, forall_eq, must_zero (show (15 : Int) ≠ 0 by omega), must_zero (show (22 : Int) ≠ 0 by omega), spot_ok, inR, Bool.and_eq_true, decide_eq_true_eq] at h
  obtain ⟨h1, h2, h3, h4⟩ := h
  exact ⟨h1, h2, h3, h4⟩
theorem unf_pos {m : Md} (hm : MdOk m) {z : Int} (h1 : 1 ≤ z) (h2 : z ≤ m.t - 1) : 1 ≤ unfI m z ∧ unfI m z ≤ 100000 := by
  obtain ⟨b1, b2⟩ := kt_bounds hm
  obtain ⟨w1, w2, m1, m2, k1, k2, t1, t2⟩ := hm
  unfold unfI
  split <;> omega
theorem way_law {m : Md} (hm : MdOk m) {a b : Int × Int} (h : wayE m a b = 0) : wayI m a b = (⟨a.1, -a.2, m.w, b.1, unfI m b.2, m.m⟩, 0) ∧ CrsOk (wayI m a b).1 := by
  obtain ⟨⟨h1, h2⟩, ⟨h3, h4⟩, h5, h6, h7⟩ := wayE_ok h
  have hu := unf_pos hm h6 h7
  have e : wayI m a b = (⟨a.1, -a.2, m.w, b.1, unfI m b.2, m.m⟩, 0) := by unfold wayI; rw [if_neg (by rw [h]; simp), if_neg (by omega)]
  obtain ⟨w1, w2, m1, m2, k1, k2, t1, t2⟩ := hm
  rw [e]
  exact ⟨rfl, ⟨by simp only; omega, by simp only; omega, by simp only; omega, by simp only; omega, by simp only; omega, by simp only; omega, by simp only; omega, by simp only; omega, w1, w2, m1, m2⟩⟩
theorem way_p (m : Md) (a b : Int × Int) (hm : MdOk m) : PC Tryz.prog 148 [.agg (mdC m), .agg (shC a), .agg (shC b)] (.tup [.agg (crsC ((wayI m a b).1)), .v (.int .i64 ((wayI m a b).2))]) := by
 have hm0 := hm
 obtain ⟨w1, w2, m1, m2, k1, k2, t1, t2⟩ := hm0
 refine pc_of_awp Tryz.func148 rfl Tryz.ntmps148 (rs := [.cell 6 209, .tmp 7]) Tryz.results148 (by simp) fun w0 => ?_
 refine awp_seq ?_
 refine xa 3 ?_
 refine rg_q (q_box rfl (by exact .inr ⟨_, rfl⟩)) ?_
 refine rg_q (q_box rfl (by exact .inr ⟨_, rfl⟩)) ?_
 refine rg_q (q_box rfl (by exact .inr ⟨_, rfl⟩)) ?_
 refine rg_nil ?_
 refine aops_alloc zr209 rfl rfl rfl ?_
 refine aops_q rfl (q_a rfl) ?_
 refine aops_nil (xq (xa 18 ?_))
 refine rg_q (q_loadA (ds := [_, _]) sz37 rfl rfl rfl) ?_
 refine rg_q (q_call en162 (.cons rfl .nil) rfl (rspotErr_p _)) ?_
 refine rg_q (q_loadA (ds := [_, _]) sz37 rfl rfl rfl) ?_
 refine rg_q (q_call en162 (.cons rfl .nil) rfl (rspotErr_p _)) ?_
 refine rg_q (q_fieldAddr fld37_1 rfl) (rg_q (q_load sz3 rfl rfl) (rg_q (q_lss rfl rfl) ?_))
 refine rg_q (q_call en113 (.cons rfl (.cons rfl .nil)) rfl (must_p _ _)) ?_
 refine rg_q (q_fieldAddr fld37_1 rfl) (rg_q (q_load sz3 rfl rfl) (rg_q (q_fieldAddr fld24_3 rfl) (rg_q (q_load sz3 rfl rfl) ?_)))
 refine rg_q (q_sub rfl rfl xi) ?_
 refine rg_q (q_call en114 (.cons rfl (.cons rfl (.cons rfl .nil))) rfl (rwithin_p _ _ _)) ?_
 refine rg_q (q_call en113 (.cons rfl (.cons rfl .nil)) rfl (must_p _ _)) ?_
 refine rg_q (q_buildSlice sl160 zr40 rfl rfl (by decide) (.cons rfl (by exact .inl rfl) (.cons rfl (by exact .inl rfl) (.cons rfl (by exact .inl rfl) (.cons rfl (by exact .inl rfl) .nil)))) ⟨rfl, rfl, rfl, rfl, rfl, rfl, rfl, rfl, trivial⟩ rfl (by decide) rfl) ?_
 refine rg_q (q_call en111 (.cons rfl .nil) rfl (rfirst_p [_, _, _, _])) ?_
 refine rg_q (q_a rfl) ?_
 refine rs (awp_seq ?_)
 refine xa 2 ?_
 refine rg_q (q_m rfl) (rg_q (q_neq rfl rfl) ?_)
 refine xc (awp_cond rfl (fun hc2 => ?_) (fun hc2 => ?_))
 ·
  (try simp only [nb, ne_eq] at hc2)
  have he : wayE m a b ≠ 0 := hc2
  have hz : wayI m a b = (crs0, wayE m a b) := by unfold wayI; rw [if_pos he]
  refine awp_seq ?_
  refine xa 2 ?_
  refine rg_q (q_build (cs := [_, _, _, _, _, _]) pl209 zr209 rfl .nil trivial rfl) ?_
  refine rg_q (q_m rfl) ?_
  refine rg_nil ?_
  refine aops_store sz209 rfl rfl (by exact .inr ⟨_, rfl⟩) rfl rfl (by decide) rfl ?_
  refine aops_q rfl (q_a rfl) ?_
  refine aops_nil ?_
  change Awp _ _ _ _ _
  refine awp_ret ?_
  refine ⟨_, (.cons (.cellA rfl rfl sz209 rfl) xk1), ?_⟩
  rw [hz]; rfl
 ·
  (try simp only [nb, ne_eq] at hc2)
  have he : wayE m a b = 0 := hc2
  obtain ⟨⟨g1, g2⟩, ⟨g3, g4⟩, g5, g6, g7⟩ := wayE_ok he
  have hz := (way_law hm he).1
  have hu := unf_pos hm g6 g7
  refine awp_skip ?_
  change Awp _ _ _ _ _
  refine awp_seq ?_
  refine xa 5 ?_
  refine rg_q (q_loadA (ds := [_, _, _, _]) sz24 rfl rfl rfl) ?_
  refine rg_q (q_fieldAddr fld37_1 rfl) (rg_q (q_load sz3 rfl rfl) ?_)
  refine rg_q (q_call en163 (.cons rfl (.cons rfl .nil)) rfl (unfolded_p _ _ hm (by omega) (by omega))) ?_
  refine rg_q (q_a rfl) ?_
  refine rs (awp_seq ?_)
  refine xa 2 ?_
  refine rg_q (q_m rfl) (rg_q (q_gtr rfl rfl) ?_)
  refine xc (awp_cond rfl (fun hc5 => ?_) (fun hc5 => ?_))
  ·
   exfalso; (try simp only [nb, ne_eq] at hc5); omega
  ·
   (try simp only [nb, ne_eq] at hc5)
   refine awp_skip ?_
   change Awp _ _ _ _ _
   refine awp_seq ?_
   refine xa 14 ?_
   refine rg_q (q_fieldAddr fld37_0 rfl) (rg_q (q_load sz3 rfl rfl) (rg_q (q_fieldAddr fld37_1 rfl) (rg_q (q_load sz3 rfl rfl) ?_)))
   refine rg_q (q_neg rfl xi) ?_
   refine rg_q (q_fieldAddr fld24_0 rfl) (rg_q (q_load sz3 rfl rfl) (rg_q (q_fieldAddr fld37_0 rfl) (rg_q (q_load sz3 rfl rfl) (rg_q (q_m rfl) (rg_q (q_fieldAddr fld24_1 rfl) ?_)))))
   refine rg_q (q_load sz3 rfl rfl) ?_
   refine rg_q (q_build (cs := [_, _, _, _, _, _]) pl207 zr207 rfl (.cons rfl (by exact .inl rfl) (.cons rfl (by exact .inl rfl) (.cons rfl (by exact .inl rfl) (.cons rfl (by exact .inl rfl) (.cons rfl (by exact .inl rfl) (.cons rfl (by exact .inl rfl) .nil)))))) ⟨⟨rfl, by decide⟩, ⟨rfl, by decide⟩, ⟨rfl, by decide⟩, ⟨rfl, by decide⟩, ⟨rfl, by decide⟩, ⟨rfl, by decide⟩, trivial⟩ rfl) ?_
   refine rg_q (q_build (cs := [_, _, _, _, _, _]) pl209 zr209 rfl (.cons rfl (by exact .inr ⟨_, rfl⟩) .nil) ⟨⟨rfl, by decide⟩, trivial⟩ rfl) ?_
   refine rg_nil ?_
   refine aops_store sz209 rfl rfl (by exact .inr ⟨_, rfl⟩) rfl rfl (by decide) rfl ?_
   refine aops_q rfl (q_a rfl) ?_
   refine aops_nil ?_
   change Awp _ _ _ _ _
   refine awp_ret ?_
   refine ⟨_, (.cons (.cellA rfl rfl sz209 rfl) xk1), ?_⟩
   rw [hz]; rfl

def opnI (m : Md) (a b : Int × Int) : Crs × Int := if modeE m ≠ 0 then (crs0, modeE m) else wayI m a b
theorem opn_ok {m : Md} {a b : Int × Int} (h : (opnI m a b).2 = 0) : MdOk m ∧ wayE m a b = 0 ∧ opnI m a b = wayI m a b := by
  unfold opnI at h ⊢
  by_cases h1 : modeE m ≠ 0
  · rw [if_pos h1] at h; exact absurd h h1
  · rw [if_neg h1] at h ⊢
    have hm := mode_ok.1 (Decidable.not_not.1 h1)
    refine ⟨hm, ?_, rfl⟩
    unfold wayI at h
    by_cases h2 : wayE m a b ≠ 0
    · rw [if_pos h2] at h; exact absurd h h2
    · exact Decidable.not_not.1 h2
theorem ropen_p (m : Md) (a b : Int × Int) : PC Tryz.prog 131 [.agg (mdC m), .agg (shC a), .agg (shC b)] (.tup [.agg (crsC ((opnI m a b).1)), .v (.int .i64 ((opnI m a b).2))]) := by
 refine pc_of_awp Tryz.func131 rfl Tryz.ntmps131 (rs := [.cell 6 209, .tmp 7]) Tryz.results131 (by simp) fun w0 => ?_
 refine awp_seq ?_
 refine xa 3 ?_
 refine rg_q (q_box rfl (by exact .inr ⟨_, rfl⟩)) ?_
 refine rg_q (q_box rfl (by exact .inr ⟨_, rfl⟩)) ?_
 refine rg_q (q_box rfl (by exact .inr ⟨_, rfl⟩)) ?_
 refine rg_nil ?_
 refine aops_alloc zr209 rfl rfl rfl ?_
 refine aops_q rfl (q_a rfl) ?_
 refine aops_nil (xq (awp_seq ?_))
 refine xa 3 ?_
 refine rg_q (q_loadA (ds := [_, _, _, _]) sz24 rfl rfl rfl) ?_
 refine rg_q (q_call en94 (.cons rfl .nil) rfl (checkMode_p _)) ?_
 refine rg_q (q_a rfl) ?_
 refine rs (xa 2 ?_)
 refine rg_q (q_m rfl) (rg_q (q_neq rfl rfl) ?_)
 refine xc (awp_cond rfl (fun hc2 => ?_) (fun hc2 => ?_))
 ·
  (try simp only [nb, ne_eq] at hc2)
  have hz : opnI m a b = (crs0, modeE m) := by unfold opnI; rw [if_pos hc2]
  refine awp_seq ?_
  refine xa 2 ?_
  refine rg_q (q_build (cs := [_, _, _, _, _, _]) pl209 zr209 rfl .nil trivial rfl) ?_
  refine rg_q (q_m rfl) ?_
  refine rg_nil ?_
  refine aops_store sz209 rfl rfl (by exact .inr ⟨_, rfl⟩) rfl rfl (by decide) rfl ?_
  refine aops_q rfl (q_a rfl) ?_
  refine aops_nil ?_
  change Awp _ _ _ _ _
  refine awp_ret ?_
  refine ⟨_, (.cons (.cellA rfl rfl sz209 rfl) xk1), ?_⟩
  rw [hz]; rfl
 ·
  (try simp only [nb, ne_eq] at hc2)
  have hm : MdOk m := mode_ok.1 (by simpa using hc2)
  have hz : opnI m a b = wayI m a b := by unfold opnI; rw [if_neg (by simpa using hc2)]
  refine awp_skip ?_
  change Awp _ _ _ _ _
  refine awp_seq ?_
  refine xa 6 ?_
  refine rg_q (q_loadA (ds := [_, _, _, _]) sz24 rfl rfl rfl) ?_
  refine rg_q (q_loadA (ds := [_, _]) sz37 rfl rfl rfl) ?_
  refine rg_q (q_loadA (ds := [_, _]) sz37 rfl rfl rfl) ?_
  refine rg_q (q_call en148 (.cons rfl (.cons rfl (.cons rfl .nil))) rfl (way_p _ _ _ hm)) ?_
  refine rg_q (q_extract rfl rfl) (rg_q (q_extract rfl rfl) ?_)
  refine rg_nil ?_
  refine aops_store sz209 rfl rfl (by exact .inr ⟨_, rfl⟩) rfl rfl (by decide) rfl ?_
  refine aops_q rfl (q_a rfl) ?_
  refine aops_nil ?_
  change Awp _ _ _ _ _
  refine awp_ret ?_
  refine ⟨_, (.cons (.cellA rfl rfl sz209 rfl) xk1), ?_⟩
  rw [hz]; rfl

def ltI (m : Md) (a b : Int × Int) : Rg × Int := if (opnI m a b).2 ≠ 0 then ((0, 0), (opnI m a b).2) else (leastI (opnI m a b).1, 0)
theorem lt_in (m : Md) (a b : Int × Int) : TimIn (ltI m a b).1 := by
  unfold ltI
  split
  · exact ⟨by simp, by simp, by simp, by simp⟩
  · rename_i h
    obtain ⟨hm, hw, e⟩ := opn_ok (Decidable.not_not.1 h)
    rw [e]
    exact least_in (way_law hm hw).2
def rtI (m : Md) (a b : Int × Int) : Int := ((ltI m a b).1.1 + (ltI m a b).1.2) / 2
theorem rt_in (m : Md) (a b : Int × Int) : 0 ≤ rtI m a b ∧ rtI m a b ≤ 20000000000 := by
  obtain ⟨h1, h2, h3, h4⟩ := lt_in m a b
  unfold rtI; omega
theorem leastTime_p (m : Md) (a b : Int × Int) : PC Tryz.prog 108 [.agg (mdC m), .agg (shC a), .agg (shC b)] (.tup [.agg [.v (.int .i64 (((ltI m a b).1).1)), .v (.int .i64 (((ltI m a b).1).2))], .v (.int .i64 ((ltI m a b).2))]) := by
 refine pc_of_awp Tryz.func108 rfl Tryz.ntmps108 (rs := [.cell 6 187, .tmp 7]) Tryz.results108 (by simp) fun w0 => ?_
 refine awp_seq ?_
 refine xa 3 ?_
 refine rg_q (q_box rfl (by exact .inr ⟨_, rfl⟩)) ?_
 refine rg_q (q_box rfl (by exact .inr ⟨_, rfl⟩)) ?_
 refine rg_q (q_box rfl (by exact .inr ⟨_, rfl⟩)) ?_
 refine rg_nil ?_
 refine aops_alloc zr187 rfl rfl rfl ?_
 refine aops_q rfl (q_a rfl) ?_
 refine aops_nil (xq (xa 7 ?_))
 refine rg_q (q_loadA (ds := [_, _, _, _]) sz24 rfl rfl rfl) ?_
 refine rg_q (q_loadA (ds := [_, _]) sz37 rfl rfl rfl) ?_
 refine rg_q (q_loadA (ds := [_, _]) sz37 rfl rfl rfl) ?_
 refine rg_q (q_call en131 (.cons rfl (.cons rfl (.cons rfl .nil))) rfl (ropen_p _ _ _)) ?_
 refine rg_q (q_move (x := .d (.tup _)) rfl) (rg_q (q_extract rfl rfl) (rg_q (q_extract rfl rfl) ?_))
 refine rg_nil ?_
 refine aops_alloc zr209 rfl rfl rfl ?_
 refine aops_store sz209 rfl rfl (by exact .inr ⟨_, rfl⟩) rfl rfl (by decide) rfl ?_
 refine aops_q rfl (q_a rfl) ?_
 refine aops_nil (xq (awp_seq ?_))
 refine xa 2 ?_
 refine rg_q (q_m rfl) (rg_q (q_neq rfl rfl) ?_)
 refine xc (awp_cond rfl (fun hc2 => ?_) (fun hc2 => ?_))
 ·
  (try simp only [nb, ne_eq] at hc2)
  have hz : ltI m a b = ((0, 0), (opnI m a b).2) := by unfold ltI; rw [if_pos hc2]
  refine awp_seq ?_
  refine xa 2 ?_
  refine rg_q (q_build (cs := [_, _]) pl187 zr187 rfl .nil trivial rfl) ?_
  refine rg_q (q_m rfl) ?_
  refine rg_nil ?_
  refine aops_store sz187 rfl rfl (by exact .inr ⟨_, rfl⟩) rfl rfl (by decide) rfl ?_
  refine aops_q rfl (q_a rfl) ?_
  refine aops_nil ?_
  change Awp _ _ _ _ _
  refine awp_ret ?_
  refine ⟨_, (.cons (.cellA rfl rfl sz187 rfl) xk1), ?_⟩
  rw [hz]; rfl
 ·
  (try simp only [nb, ne_eq] at hc2)
  have he : (opnI m a b).2 = 0 := by simpa using hc2
  obtain ⟨hm, hw, e⟩ := opn_ok he
  have hcx : CrsOk (opnI m a b).1 := by rw [e]; exact (way_law hm hw).2
  have hz : ltI m a b = (leastI (opnI m a b).1, 0) := by unfold ltI; rw [if_neg (by rw [he]; simp)]
  refine awp_skip ?_
  change Awp _ _ _ _ _
  refine awp_seq ?_
  refine xa 2 ?_
  refine rg_q (q_load_refA (ds := [_, _, _, _, _, _]) sz209 rfl rfl rfl rfl) ?_
  refine rg_q (q_call en132 (.cons rfl .nil) rfl (least_p _ hcx)) ?_
  refine rg_nil ?_
  refine aops_store sz187 rfl rfl (by exact .inr ⟨_, rfl⟩) rfl rfl (by decide) rfl ?_
  refine aops_q rfl (q_a rfl) ?_
  refine aops_nil ?_
  change Awp _ _ _ _ _
  refine awp_ret ?_
  refine ⟨_, (.cons (.cellA rfl rfl sz187 rfl) xk1), ?_⟩
  rw [hz]; rfl
theorem roundedTime_p (m : Md) (a b : Int × Int) : PC Tryz.prog 82 [.agg (mdC m), .agg (shC a), .agg (shC b)] (.tup [.v (.int .i64 (rtI m a b)), .v (.int .i64 ((ltI m a b).2))]) := by
 obtain ⟨h1, h2, h3, h4⟩ := lt_in m a b
 refine pc_of_awp Tryz.func82 rfl Tryz.ntmps82 (rs := [.tmp 6, .tmp 7]) Tryz.results82 (by simp) fun w0 => ?_
 refine awp_seq ?_
 refine xa 5 ?_
 refine rg_q (q_box rfl (by exact .inr ⟨_, rfl⟩)) ?_
 refine rg_q (q_box rfl (by exact .inr ⟨_, rfl⟩)) ?_
 refine rg_q (q_box rfl (by exact .inr ⟨_, rfl⟩)) ?_
 refine rg_q (q_a rfl) (rg_q (q_a rfl) ?_)
 refine rs (xa 7 ?_)
 refine rg_q (q_loadA (ds := [_, _, _, _]) sz24 rfl rfl rfl) ?_
 refine rg_q (q_loadA (ds := [_, _]) sz37 rfl rfl rfl) ?_
 refine rg_q (q_loadA (ds := [_, _]) sz37 rfl rfl rfl) ?_
 refine rg_q (q_call en108 (.cons rfl (.cons rfl (.cons rfl .nil))) rfl (leastTime_p _ _ _)) ?_
 refine rg_q (q_move (x := .d (.tup _)) rfl) (rg_q (q_extract rfl rfl) (rg_q (q_extract rfl rfl) ?_))
 refine rg_nil ?_
 refine aops_alloc zr187 rfl rfl rfl ?_
 refine aops_store sz187 rfl rfl (by exact .inr ⟨_, rfl⟩) rfl rfl (by decide) rfl ?_
 refine aops_q rfl (q_a rfl) ?_
 refine aops_nil (xq (xa 9 ?_))
 refine rg_q (q_fieldAddr_ref fld187_0 rfl) (rg_q (q_load_ref sz3 rfl rfl rfl) (rg_q (q_fieldAddr_ref fld187_1 rfl) (rg_q (q_load_ref sz3 rfl rfl rfl) ?_)))
 refine rg_q (q_add rfl rfl xi) ?_
 refine rg_q (q_call en109 (.cons rfl (.cons rfl .nil)) rfl (down_p _ _ ⟨by omega, by omega⟩ (by omega))) ?_
 refine rg_q (q_m rfl) (rg_q (q_a rfl) (rg_q (q_a rfl) ?_))
 refine xc (awp_ret ?_)
 refine ⟨_, xk2, ?_⟩
 rfl
end Go.Proofs.YtkbdnkjjklbddaaGreatDoor.Am.M
-- mini
set_option maxRecDepth 100000
namespace Go.Proofs.YtkbdnkjjklbddaaGreatDoor.Am.M
open Go
theorem twithin_p (n lo hi : Int) : PC Tryz.prog 116 [.v (.int .i64 (n)), .v (.int .i64 (lo)), .v (.int .i64 (hi))] (.v (.bool (inR lo n hi))) := by
 refine pc_of_awp Tryz.func116 rfl Tryz.ntmps116 (rs := [.tmp 6]) Tryz.results116 (by simp) fun w0 => ?_
 refine awp_seq ?_
 refine xa 1 ?_
 refine rg_q (q_a rfl) ?_
 refine rs (xa 9 ?_)
 refine rg_q (q_m rfl) (rg_q (q_m rfl) (rg_q (q_leq rfl rfl) (rg_q (q_m rfl) ?_)))
 refine rg_g rfl rfl (fun hG => (q_m rfl)) ?_
 refine rg_g rfl rfl (fun hG => (q_m rfl)) ?_
 refine rg_g rfl rfl (fun hG => (q_leq rfl rfl)) ?_
 refine rg_pick rfl rfl rfl rfl rfl rfl ?_
 refine rg_q (q_a rfl) ?_
 refine xc (awp_ret ?_)
 refine ⟨_, xk1, ?_⟩
 simp only [bif_and]; rfl
theorem bwithin_p (n lo hi : Int) : PC Tryz.prog 25 [.v (.int .i64 (n)), .v (.int .i64 (lo)), .v (.int .i64 (hi))] (.v (.bool (inR lo n hi))) := by
 refine pc_of_awp Tryz.func25 rfl Tryz.ntmps25 (rs := [.tmp 6]) Tryz.results25 (by simp) fun w0 => ?_
 refine awp_seq ?_
 refine xa 1 ?_
 refine rg_q (q_a rfl) ?_
 refine rs (xa 9 ?_)
 refine rg_q (q_m rfl) (rg_q (q_m rfl) (rg_q (q_leq rfl rfl) (rg_q (q_m rfl) ?_)))
 refine rg_g rfl rfl (fun hG => (q_m rfl)) ?_
 refine rg_g rfl rfl (fun hG => (q_m rfl)) ?_
 refine rg_g rfl rfl (fun hG => (q_leq rfl rfl)) ?_
 refine rg_pick rfl rfl rfl rfl rfl rfl ?_
 refine rg_q (q_a rfl) ?_
 refine xc (awp_ret ?_)
 refine ⟨_, xk1, ?_⟩
 simp only [bif_and]; rfl
theorem bsmall_p (n m : Int) (h1 : 0 ≤ m) (h2 : m ≤ 1000000000000) : PC Tryz.prog 60 [.v (.int .i64 (n)), .v (.int .i64 (m))] (.v (.bool (inR (-m) n m))) := by
 refine pc_of_awp Tryz.func60 rfl Tryz.ntmps60 (rs := [.tmp 4]) Tryz.results60 (by simp) fun w0 => ?_
 refine awp_seq ?_
 refine xa 1 ?_
 refine rg_q (q_a rfl) ?_
 refine rs (xa 6 ?_)
 refine rg_q (q_m rfl) (rg_q (q_m rfl) ?_)
 refine rg_q (q_neg rfl xi) ?_
 refine rg_q (q_m rfl) ?_
 refine rg_q (q_call en25 (.cons rfl (.cons rfl (.cons rfl .nil))) rfl (bwithin_p _ _ _)) ?_
 refine rg_q (q_a rfl) ?_
 refine xc (awp_ret ?_)
 refine ⟨_, xk1, ?_⟩
 rfl
theorem bfirst_p (l : List Int) : PC Tryz.prog 51 [.sl 1 (l.map iC)] (.v (.int .i64 (firstE l))) := by
 refine pc_of_awp Tryz.func51 rfl Tryz.ntmps51 (rs := [.tmp 2]) Tryz.results51 (by simp) fun w0 => ?_
 refine awp_seq ?_
 refine xa 1 ?_
 refine rg_q (q_a rfl) ?_
 refine rs (awp_seq ?_)
 refine xa 3 ?_
 refine rg_q (q_move (x := .d (.sl _ _)) rfl) ?_
 refine rg_q (q_len isl160 rfl (by exact len_map _ _)) ?_
 refine rg_q (q_m rfl) ?_
 refine xc (awp_len (t := 5) rfl (fun hl5 => ?_))
 (try simp only [List.length_map] at hl5)
 refine awp_block ?_
 refine awp_loopH [2, 4, 7, 8, 9, 10, 11, 12, 13, 14] [] (α := Nat) (fun k => [(7, T.i (k : Int))]) (fun k => []) (fun k => k ≤ l.length ∧ firstE l = firstE (l.drop k)) (fun k => l.length - k) 0 ⟨Nat.zero_le _, rfl⟩ ?_ ?_
 · exact xh (ms := []) (by repeat (exact Out.refl _)) ⟨(by rfl), trivial⟩ trivial
 ·
  intro k ⟨hk, hf⟩
  refine awp_seq ?_
  refine xa 1 ?_
  refine rg_q (q_lss rfl rfl) ?_
  refine rs (awp_cond rfl (fun hc2 => ?_) (fun hc2 => ?_))
  ·
   (try simp only [nb, ne_eq] at hc2)
   have hlt : k < l.length := by omega
   have hx := List.getElem?_eq_getElem hlt
   have hd : firstE (l.drop k) = if l[k] = 0 then firstE (l.drop (k + 1)) else l[k] := by rw [List.drop_eq_getElem_cons hlt]; rfl
   generalize l[k] = x at *
   refine awp_skip ?_
   change Awp _ _ _ _ _
   refine awp_seq ?_
   refine awp_block ?_
   refine awp_seq ?_
   refine xa 3 ?_
   refine rg_q (q_indexAddr sl160 rfl rfl (by omega) (map_at (by omega) hx)) ?_
   refine rg_q (q_load sz40 rfl rfl) (rg_q (q_a rfl) ?_)
   refine rs (xa 2 ?_)
   refine rg_q (q_m rfl) (rg_q (q_neq rfl rfl) ?_)
   refine xc (awp_cond rfl (fun hc4 => ?_) (fun hc4 => ?_))
   ·
    (try simp only [nb, ne_eq] at hc4)
    refine awp_seq ?_
    refine xa 2 ?_
    refine rg_q (q_m rfl) (rg_q (q_a rfl) ?_)
    refine xc (awp_ret ?_)
    refine ⟨_, xk1, ?_⟩
    rw [hf, hd, if_neg hc4]; rfl
   ·
    (try simp only [nb, ne_eq] at hc4)
    refine awp_skip ?_
    change Awp _ _ _ _ _
    refine xa 2 ?_
    refine rg_q (q_add rfl rfl xi) ?_
    refine rg_q (q_m rfl) ?_
    refine rn ?_
    refine ⟨k + 1, ⟨by omega, by rw [hf, hd, if_pos hc4]⟩, by omega, ?_⟩
    exact xh (ms := []) (by repeat (first | exact Out.head rfl rfl | (refine Out.put ?_ rfl))) ⟨(by rfl), trivial⟩ trivial
  ·
   (try simp only [nb, ne_eq] at hc2)
   refine awp_exit ?_
   change Awp _ _ _ _ _
   refine awp_seq ?_
   refine xa 1 ?_
   refine rg_q (q_a rfl) ?_
   refine xc (awp_ret ?_)
   refine ⟨_, xk1, ?_⟩
   rw [hf, List.drop_of_length_le (by omega)]; rfl

def whenI (b : Bool) (e : Int) : Int := if b = true then e else 0
theorem when_must (b : Bool) (e : Int) : whenI (!b) e = mustI b e := by cases b <;> rfl
theorem when_zero {b : Bool} {e : Int} (he : e ≠ 0) : whenI b e = 0 ↔ b = false := by unfold whenI; cases b <;> simp_all
theorem when_p (b : Bool) (e : Int) : PC Tryz.prog 59 [.v (.bool (b)), .v (.int .i64 (e))] (.v (.int .i64 (whenI b e))) := by
 refine pc_of_awp Tryz.func59 rfl Tryz.ntmps59 (rs := [.tmp 4]) Tryz.results59 (by simp) fun w0 => ?_
 refine awp_seq ?_
 refine xa 1 ?_
 refine rg_q (q_a rfl) ?_
 refine rs (awp_seq ?_)
 refine xa 1 ?_
 refine rg_q (q_m rfl) ?_
 refine xc (awp_cond rfl (fun hc1 => ?_) (fun hc1 => ?_))
 ·
  (try simp only [nb, ne_eq] at hc1)
  have hz : whenI b e = e := by unfold whenI; rw [if_pos hc1]
  refine awp_seq ?_
  refine xa 2 ?_
  refine rg_q (q_m rfl) (rg_q (q_a rfl) ?_)
  refine xc (awp_ret ?_)
  refine ⟨_, xk1, ?_⟩
  rw [hz]; rfl
 ·
  (try simp only [nb, ne_eq] at hc1)
  have hz : whenI b e = 0 := by unfold whenI; rw [if_neg (by simpa using hc1)]
  refine awp_skip ?_
  change Awp _ _ _ _ _
  refine awp_seq ?_
  refine xa 1 ?_
  refine rg_q (q_a rfl) ?_
  refine xc (awp_ret ?_)
  refine ⟨_, xk1, ?_⟩
  rw [hz]; rfl

theorem not_and_or (a b : Bool) : ((!a) || !b) = !(a && b) := by cases a <;> cases b <;> rfl
theorem bspotErr_p (p : Int × Int) : PC Tryz.prog 58 [.agg (shC p)] (.v (.int .i64 (spotE p))) := by
 refine pc_of_awp Tryz.func58 rfl Tryz.ntmps58 (rs := [.tmp 2]) Tryz.results58 (by simp) fun w0 => ?_
 refine awp_seq ?_
 refine xa 2 ?_
 refine rg_q (q_box rfl (by exact .inr ⟨_, rfl⟩)) ?_
 refine rg_q (q_a rfl) ?_
 refine rs (xa 12 ?_)
 refine rg_q (q_fieldAddr fld37_0 rfl) (rg_q (q_load sz3 rfl rfl) ?_)
 refine rg_q (q_call en60 (.cons rfl (.cons rfl .nil)) rfl (bsmall_p _ _ (by omega) (by omega))) ?_
 refine rg_q (q_not rfl) (rg_q (q_m rfl) ?_)
 refine rg_g rfl rfl (fun hG => (q_fieldAddr fld37_1 rfl)) ?_
 refine rg_g rfl rfl (fun hG => (q_load sz3 rfl rfl)) ?_
 refine rg_g rfl rfl (fun hG => (q_call en60 (.cons rfl (.cons rfl .nil)) rfl (bsmall_p _ _ (by omega) (by omega)))) ?_
 refine rg_g rfl rfl (fun hG => (q_not rfl)) ?_
 refine rg_pick rfl rfl rfl rfl rfl rfl ?_
 refine rg_q (q_call en59 (.cons rfl (.cons rfl .nil)) rfl (when_p _ _)) ?_
 refine rg_q (q_a rfl) ?_
 refine xc (awp_ret ?_)
 refine ⟨_, xk1, ?_⟩
 unfold spotE spotB; rw [← when_must]; simp only [bif_and, bif_or, ← not_and_or]; rfl

def plateE (z t : Int) : Int := mustI (inR 1 z (t - 1)) 22
def sampE (s : Int × Int) : Int := if (inR 0 s.1 1000000000000 && inR 1 s.2 100000000) = true then 0 else 2
theorem plateErr_p (p : Int × Int) (t : Int) (h1 : 2 ≤ t) (h2 : t ≤ 20000) : PC Tryz.prog 65 [.agg (shC p), .v (.int .i64 (t))] (.v (.int .i64 (plateE p.2 t))) := by
 refine pc_of_awp Tryz.func65 rfl Tryz.ntmps65 (rs := [.tmp 4]) Tryz.results65 (by simp) fun w0 => ?_
 refine awp_seq ?_
 refine xa 2 ?_
 refine rg_q (q_box rfl (by exact .inr ⟨_, rfl⟩)) ?_
 refine rg_q (q_a rfl) ?_
 refine rs (xa 8 ?_)
 refine rg_q (q_fieldAddr fld37_1 rfl) (rg_q (q_load sz3 rfl rfl) (rg_q (q_m rfl) ?_))
 refine rg_q (q_sub rfl rfl xi) ?_
 refine rg_q (q_call en25 (.cons rfl (.cons rfl (.cons rfl .nil))) rfl (bwithin_p _ _ _)) ?_
 refine rg_q (q_not rfl) ?_
 refine rg_q (q_call en59 (.cons rfl (.cons rfl .nil)) rfl (when_p _ _)) ?_
 refine rg_q (q_a rfl) ?_
 refine xc (awp_ret ?_)
 refine ⟨_, xk1, ?_⟩
 unfold plateE; rw [← when_must]; rfl
theorem checkSampling_p (s : Int × Int) : PC Tryz.prog 95 [.agg (shC s)] (.v (.int .i64 (sampE s))) := by
 refine pc_of_awp Tryz.func95 rfl Tryz.ntmps95 (rs := [.tmp 2]) Tryz.results95 (by simp) fun w0 => ?_
 refine awp_seq ?_
 refine xa 2 ?_
 refine rg_q (q_box rfl (by exact .inr ⟨_, rfl⟩)) ?_
 refine rg_q (q_a rfl) ?_
 refine rs (awp_seq ?_)
 refine xa 10 ?_
 refine rg_q (q_fieldAddr fld26_0 rfl) (rg_q (q_load sz3 rfl rfl) ?_)
 refine rg_q (q_call en116 (.cons rfl (.cons rfl (.cons rfl .nil))) rfl (twithin_p _ _ _)) ?_
 refine rg_q (q_not rfl) (rg_q (q_m rfl) ?_)
 refine rg_g rfl rfl (fun hG => (q_fieldAddr fld26_1 rfl)) ?_
 refine rg_g rfl rfl (fun hG => (q_load sz3 rfl rfl)) ?_
 refine rg_g rfl rfl (fun hG => (q_call en116 (.cons rfl (.cons rfl (.cons rfl .nil))) rfl (twithin_p _ _ _))) ?_
 refine rg_g rfl rfl (fun hG => (q_not rfl)) ?_
 refine rg_pick rfl rfl rfl rfl rfl rfl ?_
 refine xc (awp_cond rfl (fun hc1 => ?_) (fun hc1 => ?_))
 ·
  (try simp only [nb, ne_eq] at hc1)
  have hz : sampE s = 2 := by unfold sampE; rw [if_neg (by intro h; simp_all)]
  refine awp_seq ?_
  refine xa 1 ?_
  refine rg_q (q_a rfl) ?_
  refine xc (awp_ret ?_)
  refine ⟨_, xk1, ?_⟩
  rw [hz]; rfl
 ·
  (try simp only [nb, ne_eq] at hc1)
  have hz : sampE s = 0 := by unfold sampE; rw [if_pos (by simp_all)]
  refine awp_skip ?_
  change Awp _ _ _ _ _
  refine awp_seq ?_
  refine xa 1 ?_
  refine rg_q (q_a rfl) ?_
  refine xc (awp_ret ?_)
  refine ⟨_, xk1, ?_⟩
  rw [hz]; rfl

def rndI (n b : Int) : Int := (2 * n + b) / (2 * b)
theorem rounded_p (n b : Int) (h1 : -1000000000000000000 ≤ n) (h2 : n ≤ 1000000000000000000) (h3 : 1 ≤ b) (h4 : b ≤ 1000000000000000000) : PC Tryz.prog 90 [.v (.int .i64 (n)), .v (.int .i64 (b))] (.v (.int .i64 (rndI n b))) := by
 have hq := tdiv_sm (a := 2 * n + b) (b := 2 * b) ⟨by omega, by omega⟩ (by omega)
 obtain ⟨h5, h6⟩ := hq
 have hl := floor_law (n := 2 * n + b) (b := 2 * b) (by omega)
 refine pc_of_awp Tryz.func90 rfl Tryz.ntmps90 (rs := [.tmp 4]) Tryz.results90 (by simp) fun w0 => ?_
 refine awp_seq ?_
 refine xa 1 ?_
 refine rg_q (q_a rfl) ?_
 refine rs (xa 8 ?_)
 refine rg_q (q_m rfl) ?_
 refine rg_q (q_mul rfl rfl xi) ?_
 refine rg_q (q_m rfl) ?_
 refine rg_q (q_add rfl rfl xi) ?_
 refine rg_q (q_m rfl) ?_
 refine rg_q (q_mul rfl rfl xi) ?_
 refine rg_q (q_a rfl) (rg_q (q_a rfl) ?_)
 refine rs (xa 4 ?_)
 refine rg_q (q_m rfl) (rg_q (q_m rfl) ?_)
 refine rg_q (q_quo rfl rfl (by omega) xi) ?_
 refine rg_q (q_a rfl) ?_
 refine rs (awp_seq ?_)
 refine xa 4 ?_
 refine rg_q (q_m rfl) (rg_q (q_m rfl) ?_)
 refine rg_q (q_rem rfl rfl (by omega)) ?_
 refine rg_q (q_lss rfl rfl) ?_
 refine xc (awp_cond rfl (fun hc3 => ?_) (fun hc3 => ?_))
 ·
  (try simp only [nb, ne_eq] at hc3)
  rw [if_pos hc3] at hl
  refine xa 3 ?_
  refine rg_q (q_m rfl) ?_
  refine rg_q (q_sub rfl rfl xi) ?_
  refine rg_q (q_a rfl) ?_
  refine rs (xa 2 ?_)
  refine rg_q (q_m rfl) (rg_q (q_a rfl) ?_)
  refine xc (awp_ret ?_)
  refine ⟨_, xk1, ?_⟩
  unfold rndI; rw [← hl]; rfl
 ·
  (try simp only [nb, ne_eq] at hc3)
  rw [if_neg (by omega)] at hl
  refine awp_skip ?_
  change Awp _ _ _ _ _
  refine awp_seq ?_
  refine xa 2 ?_
  refine rg_q (q_m rfl) (rg_q (q_a rfl) ?_)
  refine xc (awp_ret ?_)
  refine ⟨_, xk1, ?_⟩
  unfold rndI; rw [← hl]; rfl

structure Arr where
  el : List (Int × Int)
  ou : Md
  ba : Md
  ts : Int × Int
def arrC (a : Arr) : List D := [.sl 2 (a.el.map shC), .v (.int .i64 a.ou.w), .v (.int .i64 a.ou.m), .v (.int .i64 a.ou.k), .v (.int .i64 a.ou.t), .v (.int .i64 a.ba.w), .v (.int .i64 a.ba.m), .v (.int .i64 a.ba.k), .v (.int .i64 a.ba.t), .v (.int .i64 a.ts.1), .v (.int .i64 a.ts.2)]
def elE (p : Int × Int) : Int := firstE [spotE p, whenI (decide (0 ≤ p.2)) 15]
def ckEls : Nat → List (Int × Int) → Int × Int
  | _, [] => (0, 0)
  | i, p :: ps => if elE p ≠ 0 then (i, elE p) else ckEls (i + 1) ps
def arrE0 (a : Arr) : Int := firstE [modeE a.ou, modeE a.ba, whenI (decide (a.ou.t ≠ a.ba.t)) 23, sampE a.ts]
def ckArr (a : Arr) : Int × Int := if a.el.length = 0 then (0, 10) else if 16 < a.el.length then (0, 8) else if (ckEls 0 a.el).2 ≠ 0 then ckEls 0 a.el else (0, arrE0 a)
theorem ckEls_at {l : List (Int × Int)} {k : Nat} {x : Int × Int} (hx : l[k]? = some x) : ckEls k (l.drop k) = if elE x ≠ 0 then ((k : Int), elE x) else ckEls (k + 1) (l.drop (k + 1)) := by
  obtain ⟨hlt, rfl⟩ := List.getElem?_eq_some_iff.1 hx
  rw [List.drop_eq_getElem_cons hlt]; rfl
theorem ckEls_ok : ∀ {l : List (Int × Int)} {i : Nat}, (ckEls i l).2 = 0 → ∀ p ∈ l, elE p = 0
  | [], _, _, p, hp => by cases hp
  | q :: l, i, h, p, hp => by
    unfold ckEls at h
    by_cases h1 : elE q ≠ 0
    · rw [if_pos h1] at h; exact absurd h h1
    · rw [if_neg h1] at h
      rcases List.mem_cons.1 hp with rfl | hp
      · exact Decidable.not_not.1 h1
      · exact ckEls_ok h p hp
structure ArrOk (a : Arr) : Prop where
  n1 : 1 ≤ a.el.length
  n2 : a.el.length ≤ 16
  el : ∀ p ∈ a.el, (-100000 ≤ p.1 ∧ p.1 ≤ 100000) ∧ -100000 ≤ p.2 ∧ p.2 < 0
  ou : MdOk a.ou
  ba : MdOk a.ba
  th : a.ou.t = a.ba.t
  t1 : 0 ≤ a.ts.1
  t2 : a.ts.1 ≤ 1000000000000
  t3 : 1 ≤ a.ts.2
  t4 : a.ts.2 ≤ 100000000
theorem elE_ok {p : Int × Int} (h : elE p = 0) : (-100000 ≤ p.1 ∧ p.1 ≤ 100000) ∧ -100000 ≤ p.2 ∧ p.2 < 0 := by
  unfold elE at h
  rw [first_zero] at h
  simp only [List.mem_cons, List.not_mem_nil, or_false, forall_eq_or_imp, forall_eq, spot_ok, when_zero (show (15 : Int) ≠ 0 by omega), decide_eq_false_iff_not] at h
  omega
theorem ckArr_ok {a : Arr} (h : (ckArr a).2 = 0) : ArrOk a ∧ ckArr a = (0, 0) := by
  unfold ckArr at h ⊢
  by_cases h1 : a.el.length = 0
  · rw [if_pos h1] at h; simp at h
  by_cases h2 : 16 < a.el.length
  · rw [if_neg h1, if_pos h2] at h; simp at h
  by_cases h3 : (ckEls 0 a.el).2 ≠ 0
  · rw [if_neg h1, if_neg h2, if_pos h3] at h; exact absurd h h3
  rw [if_neg h1, if_neg h2, if_neg h3] at h ⊢
  simp only at h
  have h4 := h
  unfold arrE0 at h4
  rw [first_zero] at h4
  simp only [List.mem_cons, List.not_mem_nil, or_false, forall_eq_or_imp, forall_eq, mode_ok, when_zero (show (23 : Int) ≠ 0 by omega), decide_eq_false_iff_not, Decidable.not_not] at h4
  obtain ⟨k1, k2, k3, k4⟩ := h4
  have k5 : inR 0 a.ts.1 1000000000000 && inR 1 a.ts.2 100000000 := by
    unfold sampE at k4
    split at k4
    · assumption
    · cases k4
  simp [inR] at k5
  refine ⟨⟨by omega, by omega, fun p hp => elE_ok (ckEls_ok (Decidable.not_not.1 h3) p hp), k1, k2, k3, k5.1.1, k5.1.2, k5.2.1, k5.2.2⟩, by rw [h]⟩
theorem checkArray_p (a : Arr) : PC Tryz.prog 63 [.agg (arrC a)] (.tup [.v (.int .i64 ((ckArr a).1)), .v (.int .i64 ((ckArr a).2))]) := by
 refine pc_of_awp Tryz.func63 rfl Tryz.ntmps63 (rs := [.tmp 2, .tmp 3]) Tryz.results63 (by simp) fun w0 => ?_
 refine awp_seq ?_
 refine xa 3 ?_
 refine rg_q (q_box rfl (by exact .inr ⟨_, rfl⟩)) ?_
 refine rg_q (q_a rfl) (rg_q (q_a rfl) ?_)
 refine rs (awp_block ?_)
 refine awp_seq ?_
 refine xa 5 ?_
 refine rg_q (q_fieldAddr fld28_0 rfl) (rg_q (q_load sz22 rfl rfl) ?_)
 refine rg_q (q_len isl22 rfl (by exact len_map _ _)) ?_
 refine rg_q (q_eql rfl rfl) (rg_q (q_a rfl) ?_)
 refine xc (awp_len (t := 9) rfl (fun hl9 => ?_))
 (try simp only [List.length_map] at hl9)
 refine awp_cond rfl (fun hc1 => ?_) (fun hc1 => ?_)
 ·
  (try simp only [nb, ne_eq] at hc1)
  have hz : ckArr a = (0, 10) := by unfold ckArr; rw [if_pos (by omega)]
  refine awp_seq ?_
  refine xa 2 ?_
  refine rg_q (q_a rfl) (rg_q (q_a rfl) ?_)
  refine xc (awp_ret ?_)
  refine ⟨_, xk2, ?_⟩
  rw [hz]; rfl
 ·
  (try simp only [nb, ne_eq] at hc1)
  refine awp_seq ?_
  refine xa 5 ?_
  refine rg_q (q_fieldAddr fld28_0 rfl) (rg_q (q_load sz22 rfl rfl) ?_)
  refine rg_q (q_len isl22 rfl (by exact len_map _ _)) ?_
  refine rg_q (q_gtr rfl rfl) (rg_q (q_a rfl) ?_)
  refine xc (awp_len (t := 14) rfl (fun hl14 => ?_))
  (try simp only [List.length_map] at hl14)
  refine awp_cond rfl (fun hc3 => ?_) (fun hc3 => ?_)
  ·
   (try simp only [nb, ne_eq] at hc3)
   have hz : ckArr a = (0, 8) := by unfold ckArr; rw [if_neg (by omega), if_pos (by omega)]
   refine awp_seq ?_
   refine xa 2 ?_
   refine rg_q (q_a rfl) (rg_q (q_a rfl) ?_)
   refine xc (awp_ret ?_)
   refine ⟨_, xk2, ?_⟩
   rw [hz]; rfl
  ·
   (try simp only [nb, ne_eq] at hc3)
   have hz : ckArr a = if (ckEls 0 a.el).2 ≠ 0 then ckEls 0 a.el else (0, arrE0 a) := by unfold ckArr; rw [if_neg (by omega), if_neg (by omega)]
   refine awp_skip ?_
   change Awp _ _ _ _ _
   refine awp_seq ?_
   refine awp_seq ?_
   refine xa 4 ?_
   refine rg_q (q_fieldAddr fld28_0 rfl) (rg_q (q_load sz22 rfl rfl) ?_)
   refine rg_q (q_len isl22 rfl (by exact len_map _ _)) ?_
   refine rg_q (q_m rfl) ?_
   refine xc (awp_len (t := 18) rfl (fun hl18 => ?_))
   (try simp only [List.length_map] at hl18)
   refine awp_block ?_
   refine awp_loopH [2, 3, 4, 5, 6, 20, 21, 22, 23, 24, 25, 26, 27, 28, 29, 30, 31, 32, 33, 34, 35, 36, 37] [] (α := Nat) (fun k => [(20, T.i (k : Int))]) (fun k => []) (fun k => k ≤ a.el.length ∧ ckEls 0 a.el = ckEls k (a.el.drop k)) (fun k => a.el.length - k) 0 ⟨Nat.zero_le _, rfl⟩ ?_ ?_
   · exact xh (ms := []) (by repeat (exact Out.refl _)) ⟨(by rfl), trivial⟩ trivial
   ·
    intro k ⟨hk, hf⟩
    refine awp_seq ?_
    refine xa 1 ?_
    refine rg_q (q_lss rfl rfl) ?_
    refine rs (awp_cond rfl (fun hc6 => ?_) (fun hc6 => ?_))
    ·
     (try simp only [nb, ne_eq] at hc6)
     have hlt : k < a.el.length := by omega
     obtain ⟨x, hx⟩ : ∃ x, a.el[k]? = some x := ⟨_, List.getElem?_eq_getElem hlt⟩
     have hd := ckEls_at hx
     refine awp_skip ?_
     change Awp _ _ _ _ _
     refine awp_seq ?_
     refine awp_block ?_
     refine awp_seq ?_
     refine xa 3 ?_
     refine rg_q (q_m rfl) ?_
     refine rg_q (q_indexAddr sl22 rfl rfl (by omega) (map_at (by omega) hx)) ?_
     refine rg_q (q_loadA (ds := [_, _]) sz37 rfl rfl rfl) ?_
     refine rg_nil ?_
     refine aops_alloc zr37 rfl rfl rfl ?_
     refine aops_q rfl (q_a rfl) ?_
     refine aops_store sz37 rfl rfl (by exact .inr ⟨_, rfl⟩) rfl rfl (by decide) rfl ?_
     refine aops_nil (xq (xa 9 ?_))
     refine rg_q (q_load_refA (ds := [_, _]) sz37 rfl rfl rfl rfl) ?_
     refine rg_q (q_call en58 (.cons rfl .nil) rfl (bspotErr_p _)) ?_
     refine rg_q (q_fieldAddr_ref fld37_1 rfl) (rg_q (q_load_ref sz3 rfl rfl rfl) (rg_q (q_geq rfl rfl) ?_))
     refine rg_q (q_call en59 (.cons rfl (.cons rfl .nil)) rfl (when_p _ _)) ?_
     refine rg_q (q_buildSlice sl160 zr40 rfl rfl (by decide) (.cons rfl (by exact .inl rfl) (.cons rfl (by exact .inl rfl) .nil)) ⟨rfl, rfl, rfl, rfl, trivial⟩ rfl (by decide) rfl) ?_
     refine rg_q (q_call en51 (.cons rfl .nil) rfl (bfirst_p [_, _])) ?_
     refine rg_q (q_a rfl) ?_
     refine rs (xa 2 ?_)
     refine rg_q (q_m rfl) (rg_q (q_neq rfl rfl) ?_)
     refine xc (awp_cond rfl (fun hc9 => ?_) (fun hc9 => ?_))
     ·
      (try simp only [nb, ne_eq] at hc9)
      have hb : elE x ≠ 0 := hc9
      have hz2 : ckEls 0 a.el = ((k : Int), elE x) := by rw [hf, hd, if_pos hb]
      refine awp_seq ?_
      refine xa 4 ?_
      refine rg_q (q_m rfl) (rg_q (q_m rfl) (rg_q (q_a rfl) (rg_q (q_a rfl) ?_)))
      refine xc (awp_ret ?_)
      refine ⟨_, xk2, ?_⟩
      rw [hz, hz2, if_pos hb]; rfl
     ·
      (try simp only [nb, ne_eq] at hc9)
      have hb : elE x = 0 := hc9
      refine awp_skip ?_
      change Awp _ _ _ _ _
      refine xa 2 ?_
      refine rg_q (q_add rfl rfl xi) ?_
      refine rg_q (q_m rfl) ?_
      refine rn ?_
      refine ⟨k + 1, ⟨by omega, by rw [hf, hd, if_neg (by rw [hb]; simp)]⟩, by omega, ?_⟩
      exact xh (ms := []) (by repeat (first | exact Out.head rfl rfl | (refine Out.put ?_ rfl) | (refine Out.site ?_ rfl))) ⟨(by rfl), trivial⟩ trivial
    ·
     (try simp only [nb, ne_eq] at hc6)
     have hk0 : ckEls 0 a.el = (0, 0) := by rw [hf, List.drop_of_length_le (by omega)]; rfl
     refine awp_exit ?_
     change Awp _ _ _ _ _
     refine awp_seq ?_
     refine xa 21 ?_
     refine rg_q (q_fieldAddr fld28_1 rfl) ?_
     refine rg_q (q_loadA (ds := [_, _, _, _]) sz24 rfl rfl rfl) ?_
     refine rg_q (q_call en94 (.cons rfl .nil) rfl (checkMode_p a.ou)) ?_
     refine rg_q (q_fieldAddr fld28_2 rfl) ?_
     refine rg_q (q_loadA (ds := [_, _, _, _]) sz24 rfl rfl rfl) ?_
     refine rg_q (q_call en94 (.cons rfl .nil) rfl (checkMode_p a.ba)) ?_
     refine rg_q (q_fieldAddr fld28_1 rfl) (rg_q (q_fieldAddr fld24_3 rfl) (rg_q (q_load sz3 rfl rfl) (rg_q (q_fieldAddr fld28_2 rfl) (rg_q (q_fieldAddr fld24_3 rfl) (rg_q (q_load sz3 rfl rfl) ?_)))))
     refine rg_q (q_neq rfl rfl) ?_
     refine rg_q (q_call en59 (.cons rfl (.cons rfl .nil)) rfl (when_p _ _)) ?_
     refine rg_q (q_fieldAddr fld28_3 rfl) ?_
     refine rg_q (q_loadA (ds := [_, _]) sz26 rfl rfl rfl) ?_
     refine rg_q (q_call en95 (.cons rfl .nil) rfl (checkSampling_p a.ts)) ?_
     refine rg_q (q_buildSlice sl160 zr40 rfl rfl (by decide) (.cons rfl (by exact .inl rfl) (.cons rfl (by exact .inl rfl) (.cons rfl (by exact .inl rfl) (.cons rfl (by exact .inl rfl) .nil)))) ⟨rfl, rfl, rfl, rfl, rfl, rfl, rfl, rfl, trivial⟩ rfl (by decide) rfl) ?_
     refine rg_q (q_call en51 (.cons rfl .nil) rfl (bfirst_p [_, _, _, _])) ?_
     refine rg_q (q_a rfl) (rg_q (q_a rfl) ?_)
     refine xc (awp_ret ?_)
     refine ⟨_, xk2, ?_⟩
     rw [hz, hk0, if_neg (by simp)]; rfl

def pairE (n : Nat) (p : Int × Int) : Int := whenI (!inR 0 p.1 ((n : Int) - 1) || !inR 0 p.2 ((n : Int) - 1)) 6
theorem pair_ok {n : Nat} {p : Int × Int} (h : pairE n p = 0) : (0 ≤ p.1 ∧ p.1 < n) ∧ 0 ≤ p.2 ∧ p.2 < n := by
  unfold pairE at h
  rw [when_zero (by omega)] at h
  simp [inR] at h
  omega
theorem pairErr_p (a : Arr) (p : Int × Int) (hl : a.el.length ≤ 1000) : PC Tryz.prog 52 [.agg (arrC a), .agg (shC p)] (.v (.int .i64 (pairE a.el.length p))) := by
 refine pc_of_awp Tryz.func52 rfl Tryz.ntmps52 (rs := [.tmp 4]) Tryz.results52 (by simp) fun w0 => ?_
 refine awp_seq ?_
 refine xa 3 ?_
 refine rg_q (q_box rfl (by exact .inr ⟨_, rfl⟩)) ?_
 refine rg_q (q_box rfl (by exact .inr ⟨_, rfl⟩)) ?_
 refine rg_q (q_a rfl) ?_
 refine rs (xa 6 ?_)
 refine rg_q (q_fieldAddr fld110_0 rfl) (rg_q (q_fieldAddr fld28_0 rfl) (rg_q (q_load sz22 rfl rfl) ?_))
 refine rg_q (q_len isl22 rfl (by exact len_map _ _)) ?_
 refine rg_q (q_sub rfl rfl xi) ?_
 refine rg_q (q_a rfl) ?_
 refine xc (awp_len (t := 8) rfl (fun hl8 => ?_))
 (try simp only [List.length_map] at hl8)
 refine awp_seq ?_
 refine xa 14 ?_
 refine rg_q (q_indexAddr_ar ar60 rfl rfl (by omega) (by omega)) ?_
 refine rg_q (q_load sz3 rfl rfl) (rg_q (q_m rfl) ?_)
 refine rg_q (q_call en25 (.cons rfl (.cons rfl (.cons rfl .nil))) rfl (bwithin_p _ _ _)) ?_
 refine rg_q (q_not rfl) (rg_q (q_m rfl) ?_)
 refine rg_g rfl rfl (fun hG => (q_indexAddr_ar ar60 rfl rfl (by (have hg0 := T.bool_inj (a := _) hG.1; (try simp only [nb, ne_eq] at hg0); omega)) (by (have hg0 := T.bool_inj (a := _) hG.1; (try simp only [nb, ne_eq] at hg0); omega)))) ?_
 refine rg_g rfl rfl (fun hG => (q_load sz3 rfl rfl)) ?_
 refine rg_g rfl rfl (fun hG => (q_m rfl)) ?_
 refine rg_g rfl rfl (fun hG => (q_call en25 (.cons rfl (.cons rfl (.cons rfl .nil))) rfl (bwithin_p _ _ _))) ?_
 refine rg_g rfl rfl (fun hG => (q_not rfl)) ?_
 refine rg_pick rfl rfl rfl rfl rfl rfl ?_
 refine rg_q (q_call en59 (.cons rfl (.cons rfl .nil)) rfl (when_p _ _)) ?_
 refine rg_q (q_a rfl) ?_
 refine xc (awp_ret ?_)
 refine ⟨_, xk1, ?_⟩
 unfold pairE; simp only [bif_or]; rfl

def elAt (a : Arr) (i : Int) : Int × Int := a.el.getD i.toNat (0, 0)
def echI (a : Arr) (at_ p : Int × Int) : Int := rtI a.ou (elAt a p.1) at_ + rtI a.ba (elAt a p.2) at_
theorem el_at {a : Arr} {i : Int} (h1 : 0 ≤ i) (h2 : i < a.el.length) : a.el[i.toNat]? = some (elAt a i) := by
  unfold elAt
  rw [List.getD_eq_getElem?_getD, List.getElem?_eq_getElem (by omega)]; rfl
theorem ech_in (a : Arr) (at_ p : Int × Int) : 0 ≤ echI a at_ p ∧ echI a at_ p ≤ 40000000000 := by
  have h1 := rt_in a.ou (elAt a p.1) at_
  have h2 := rt_in a.ba (elAt a p.2) at_
  unfold echI; omega
theorem echo_p (a : Arr) (t p : Int × Int) (hp : (0 ≤ p.1 ∧ p.1 < a.el.length) ∧ 0 ≤ p.2 ∧ p.2 < a.el.length) : PC Tryz.prog 49 [.agg (arrC a), .agg (shC t), .agg (shC p)] (.v (.int .i64 (echI a t p))) := by
 obtain ⟨⟨p1, p2⟩, p3, p4⟩ := hp
 have hx := el_at p1 p2
 have hy := el_at p3 p4
 have r1 := rt_in a.ou (elAt a p.1) t
 have r2 := rt_in a.ba (elAt a p.2) t
 have e1 : ((p.1.toNat : Nat) : Int) = p.1 := by omega
 have e2 : ((p.2.toNat : Nat) : Int) = p.2 := by omega
 refine pc_of_awp Tryz.func49 rfl Tryz.ntmps49 (rs := [.tmp 6]) Tryz.results49 (by simp) fun w0 => ?_
 refine awp_seq ?_
 refine xa 4 ?_
 refine rg_q (q_box rfl (by exact .inr ⟨_, rfl⟩)) ?_
 refine rg_q (q_box rfl (by exact .inr ⟨_, rfl⟩)) ?_
 refine rg_q (q_box rfl (by exact .inr ⟨_, rfl⟩)) ?_
 refine rg_q (q_a rfl) ?_
 refine rs (xa 17 ?_)
 refine rg_q (q_fieldAddr fld110_0 rfl) (rg_q (q_fieldAddr fld28_1 rfl) ?_)
 refine rg_q (q_loadA (ds := [_, _, _, _]) sz24 rfl rfl rfl) ?_
 refine rg_q (q_fieldAddr fld110_0 rfl) (rg_q (q_fieldAddr fld28_0 rfl) (rg_q (q_load sz22 rfl rfl) ?_))
 refine rg_q (q_indexAddr_ar ar60 rfl rfl (by omega) (by omega)) ?_
 refine rg_q (q_load sz3 rfl rfl) ?_
 refine rg_q (q_indexAddr sl22 rfl rfl (by omega) (map_at (k := p.1.toNat) (by omega) hx)) ?_
 refine rg_q (q_loadA (ds := [_, _]) sz37 rfl rfl rfl) ?_
 refine rg_q (q_loadA (ds := [_, _]) sz37 rfl rfl rfl) ?_
 refine rg_q (q_call en82 (.cons rfl (.cons rfl (.cons rfl .nil))) rfl (roundedTime_p a.ou (elAt a p.1) t)) ?_
 refine rg_q (q_move (x := .d (.tup _)) rfl) (rg_q (q_extract rfl rfl) (rg_q (q_extract rfl rfl) (rg_q (q_a rfl) (rg_q (q_a rfl) ?_))))
 refine rs (xa 17 ?_)
 refine rg_q (q_fieldAddr fld110_0 rfl) (rg_q (q_fieldAddr fld28_2 rfl) ?_)
 refine rg_q (q_loadA (ds := [_, _, _, _]) sz24 rfl rfl rfl) ?_
 refine rg_q (q_fieldAddr fld110_0 rfl) (rg_q (q_fieldAddr fld28_0 rfl) (rg_q (q_load sz22 rfl rfl) ?_))
 refine rg_q (q_indexAddr_ar ar60 rfl rfl (by omega) (by omega)) ?_
 refine rg_q (q_load sz3 rfl rfl) ?_
 refine rg_q (q_indexAddr sl22 rfl rfl (by omega) (map_at (k := p.2.toNat) (by omega) hy)) ?_
 refine rg_q (q_loadA (ds := [_, _]) sz37 rfl rfl rfl) ?_
 refine rg_q (q_loadA (ds := [_, _]) sz37 rfl rfl rfl) ?_
 refine rg_q (q_call en82 (.cons rfl (.cons rfl (.cons rfl .nil))) rfl (roundedTime_p a.ba (elAt a p.2) t)) ?_
 refine rg_q (q_move (x := .d (.tup _)) rfl) (rg_q (q_extract rfl rfl) (rg_q (q_extract rfl rfl) (rg_q (q_a rfl) (rg_q (q_a rfl) ?_))))
 refine rs (xa 4 ?_)
 refine rg_q (q_m rfl) (rg_q (q_m rfl) ?_)
 refine rg_q (q_add rfl rfl xi) ?_
 refine rg_q (q_a rfl) ?_
 refine xc (awp_ret ?_)
 refine ⟨_, xk1, ?_⟩
 rfl

def smpI (a : Arr) (t p : Int × Int) : Int := rndI (echI a t p - a.ts.1) a.ts.2
theorem sample_p (a : Arr) (t p : Int × Int) (hok : ArrOk a) (hpk : (0 ≤ p.1 ∧ p.1 < a.el.length) ∧ 0 ≤ p.2 ∧ p.2 < a.el.length) : PC Tryz.prog 85 [.agg (arrC a), .agg (shC t), .agg (shC p)] (.v (.int .i64 (smpI a t p))) := by
 have he := ech_in a t p
 obtain ⟨_, _, _, _, _, _, t1, t2, t3, t4⟩ := hok
 refine pc_of_awp Tryz.func85 rfl Tryz.ntmps85 (rs := [.tmp 6]) Tryz.results85 (by simp) fun w0 => ?_
 refine awp_seq ?_
 refine xa 4 ?_
 refine rg_q (q_box rfl (by exact .inr ⟨_, rfl⟩)) ?_
 refine rg_q (q_box rfl (by exact .inr ⟨_, rfl⟩)) ?_
 refine rg_q (q_box rfl (by exact .inr ⟨_, rfl⟩)) ?_
 refine rg_q (q_a rfl) ?_
 refine rs (xa 15 ?_)
 refine rg_q (q_loadA (ds := [_, _, _, _, _, _, _, _, _, _, _]) sz110 rfl rfl rfl) ?_
 refine rg_q (q_loadA (ds := [_, _]) sz37 rfl rfl rfl) ?_
 refine rg_q (q_loadA (ds := [_, _]) sz60 rfl rfl rfl) ?_
 refine rg_q (q_call en49 (.cons rfl (.cons rfl (.cons rfl .nil))) rfl (echo_p _ _ _ hpk)) ?_
 refine rg_q (q_fieldAddr fld110_0 rfl) (rg_q (q_fieldAddr fld28_3 rfl) (rg_q (q_fieldAddr fld26_0 rfl) (rg_q (q_load sz3 rfl rfl) ?_)))
 refine rg_q (q_sub rfl rfl xi) ?_
 refine rg_q (q_fieldAddr fld110_0 rfl) (rg_q (q_fieldAddr fld28_3 rfl) (rg_q (q_fieldAddr fld26_1 rfl) (rg_q (q_load sz3 rfl rfl) ?_)))
 refine rg_q (q_call en90 (.cons rfl (.cons rfl .nil)) rfl (rounded_p _ _ (by omega) (by omega) (by omega) (by omega))) ?_
 refine rg_q (q_a rfl) ?_
 refine xc (awp_ret ?_)
 refine ⟨_, xk1, ?_⟩
 rfl

def opE (a : Arr) (t p : Int × Int) : Int := if (ckArr a).2 ≠ 0 then (ckArr a).2 else firstE [spotE t, plateE t.2 a.ou.t, pairE a.el.length p]
theorem op_ok {a : Arr} {t p : Int × Int} (h : opE a t p = 0) : ArrOk a ∧ ((0 ≤ p.1 ∧ p.1 < a.el.length) ∧ 0 ≤ p.2 ∧ p.2 < a.el.length) ∧ spotE t = 0 ∧ plateE t.2 a.ou.t = 0 := by
  unfold opE at h
  by_cases h1 : (ckArr a).2 ≠ 0
  · rw [if_pos h1] at h; exact absurd h h1
  rw [if_neg h1, first_zero] at h
  simp only [List.mem_cons, List.not_mem_nil, or_false, forall_eq_or_imp, forall_eq] at h
  exact ⟨(ckArr_ok (Decidable.not_not.1 h1)).1, pair_ok h.2.2, h.1, h.2.1⟩
theorem bopen_p (a : Arr) (t p : Int × Int) : PC Tryz.prog 48 [.agg (arrC a), .agg (shC t), .agg (shC p)] (.tup [.agg (arrC a), .v (.int .i64 (opE a t p))]) := by
 refine pc_of_awp Tryz.func48 rfl Tryz.ntmps48 (rs := [.cell 6 110, .tmp 7]) Tryz.results48 (by simp) fun w0 => ?_
 refine awp_seq ?_
 refine xa 3 ?_
 refine rg_q (q_box rfl (by exact .inr ⟨_, rfl⟩)) ?_
 refine rg_q (q_box rfl (by exact .inr ⟨_, rfl⟩)) ?_
 refine rg_q (q_box rfl (by exact .inr ⟨_, rfl⟩)) ?_
 refine rg_nil ?_
 refine aops_alloc zr110 rfl rfl rfl ?_
 refine aops_q rfl (q_a rfl) ?_
 refine aops_nil (xq (xa 2 ?_))
 refine rg_q (q_loadA (ds := [_, _, _, _, _, _, _, _, _, _, _]) sz28 rfl rfl rfl) ?_
 refine rg_q (q_build (cs := [_, _, _, _, _, _, _, _, _, _, _]) pl110 zr110 rfl (.cons rfl (by exact .inr ⟨_, rfl⟩) .nil) ⟨⟨rfl, by decide⟩, trivial⟩ rfl) ?_
 refine rg_nil ?_
 refine aops_alloc zr110 rfl rfl rfl ?_
 refine aops_store sz110 rfl rfl (by exact .inr ⟨_, rfl⟩) rfl rfl (by decide) rfl ?_
 refine aops_nil (xq (awp_seq ?_))
 refine xa 7 ?_
 refine rg_q (q_loadA (ds := [_, _, _, _, _, _, _, _, _, _, _]) sz28 rfl rfl rfl) ?_
 refine rg_q (q_call en63 (.cons rfl .nil) rfl (checkArray_p _)) ?_
 refine rg_q (q_move (x := .d (.tup _)) rfl) (rg_q (q_extract rfl rfl) (rg_q (q_extract rfl rfl) (rg_q (q_a rfl) (rg_q (q_a rfl) ?_))))
 refine rs (xa 2 ?_)
 refine rg_q (q_m rfl) (rg_q (q_neq rfl rfl) ?_)
 refine xc (awp_cond rfl (fun hc3 => ?_) (fun hc3 => ?_))
 ·
  (try simp only [nb, ne_eq] at hc3)
  have hz : opE a t p = (ckArr a).2 := by unfold opE; rw [if_pos hc3]
  refine awp_seq ?_
  refine xa 2 ?_
  refine rg_q (q_load_refA (ds := [_, _, _, _, _, _, _, _, _, _, _]) sz110 rfl rfl rfl rfl) ?_
  refine rg_q (q_m rfl) ?_
  refine rg_nil ?_
  refine aops_store sz110 rfl rfl (by exact .inr ⟨_, rfl⟩) rfl rfl (by decide) rfl ?_
  refine aops_q rfl (q_a rfl) ?_
  refine aops_nil ?_
  change Awp _ _ _ _ _
  refine awp_ret ?_
  refine ⟨_, (.cons (.cellA rfl rfl sz110 rfl) xk1), ?_⟩
  rw [hz]; rfl
 ·
  (try simp only [nb, ne_eq] at hc3)
  have hck : (ckArr a).2 = 0 := by simpa using hc3
  have hok := (ckArr_ok hck).1
  have ht1 := hok.ou.t1
  have ht2 := hok.ou.t2
  have hl16 : a.el.length ≤ 1000 := by have := hok.n2; omega
  have hz : opE a t p = firstE [spotE t, plateE t.2 a.ou.t, pairE a.el.length p] := by unfold opE; rw [if_neg (by rw [hck]; simp)]
  refine awp_skip ?_
  change Awp _ _ _ _ _
  refine awp_seq ?_
  refine xa 13 ?_
  refine rg_q (q_load_refA (ds := [_, _, _, _, _, _, _, _, _, _, _]) sz110 rfl rfl rfl rfl) ?_
  refine rg_q (q_loadA (ds := [_, _]) sz37 rfl rfl rfl) ?_
  refine rg_q (q_call en58 (.cons rfl .nil) rfl (bspotErr_p _)) ?_
  refine rg_q (q_loadA (ds := [_, _]) sz37 rfl rfl rfl) ?_
  refine rg_q (q_fieldAddr fld28_1 rfl) (rg_q (q_fieldAddr fld24_3 rfl) (rg_q (q_load sz3 rfl rfl) ?_))
  refine rg_q (q_call en65 (.cons rfl (.cons rfl .nil)) rfl (plateErr_p t a.ou.t ht1 ht2)) ?_
  refine rg_q (q_load_refA (ds := [_, _, _, _, _, _, _, _, _, _, _]) sz110 rfl rfl rfl rfl) ?_
  refine rg_q (q_loadA (ds := [_, _]) sz60 rfl rfl rfl) ?_
  refine rg_q (q_call en52 (.cons rfl (.cons rfl .nil)) rfl (pairErr_p _ _ hl16)) ?_
  refine rg_q (q_buildSlice sl160 zr40 rfl rfl (by decide) (.cons rfl (by exact .inl rfl) (.cons rfl (by exact .inl rfl) (.cons rfl (by exact .inl rfl) .nil))) ⟨rfl, rfl, rfl, rfl, rfl, rfl, trivial⟩ rfl (by decide) rfl) ?_
  refine rg_q (q_call en51 (.cons rfl .nil) rfl (bfirst_p [_, _, _])) ?_
  refine rg_nil ?_
  refine aops_store sz110 rfl rfl (by exact .inr ⟨_, rfl⟩) rfl rfl (by decide) rfl ?_
  refine aops_q rfl (q_a rfl) ?_
  refine aops_nil ?_
  change Awp _ _ _ _ _
  refine awp_ret ?_
  refine ⟨_, (.cons (.cellA rfl rfl sz110 rfl) xk1), ?_⟩
  rw [hz]; rfl

def echR (a : Arr) (t p : Int × Int) : Int × Int := if opE a t p ≠ 0 then (0, opE a t p) else (echI a t p, 0)
theorem echoAt_p (a : Arr) (t p : Int × Int) : PC Tryz.prog 18 [.agg (arrC a), .agg (shC t), .agg (shC p)] (.tup [.v (.int .i64 ((echR a t p).1)), .v (.int .i64 ((echR a t p).2))]) := by
 refine pc_of_awp Tryz.func18 rfl Tryz.ntmps18 (rs := [.tmp 6, .tmp 7]) Tryz.results18 (by simp) fun w0 => ?_
 refine awp_seq ?_
 refine xa 5 ?_
 refine rg_q (q_box rfl (by exact .inr ⟨_, rfl⟩)) ?_
 refine rg_q (q_box rfl (by exact .inr ⟨_, rfl⟩)) ?_
 refine rg_q (q_box rfl (by exact .inr ⟨_, rfl⟩)) ?_
 refine rg_q (q_a rfl) (rg_q (q_a rfl) ?_)
 refine rs (xa 7 ?_)
 refine rg_q (q_loadA (ds := [_, _, _, _, _, _, _, _, _, _, _]) sz28 rfl rfl rfl) ?_
 refine rg_q (q_loadA (ds := [_, _]) sz37 rfl rfl rfl) ?_
 refine rg_q (q_loadA (ds := [_, _]) sz60 rfl rfl rfl) ?_
 refine rg_q (q_call en48 (.cons rfl (.cons rfl (.cons rfl .nil))) rfl (bopen_p _ _ _)) ?_
 refine rg_q (q_move (x := .d (.tup _)) rfl) (rg_q (q_extract rfl rfl) (rg_q (q_extract rfl rfl) ?_))
 refine rg_nil ?_
 refine aops_alloc zr110 rfl rfl rfl ?_
 refine aops_store sz110 rfl rfl (by exact .inr ⟨_, rfl⟩) rfl rfl (by decide) rfl ?_
 refine aops_q rfl (q_a rfl) ?_
 refine aops_nil (xq (awp_seq ?_))
 refine xa 2 ?_
 refine rg_q (q_m rfl) (rg_q (q_neq rfl rfl) ?_)
 refine xc (awp_cond rfl (fun hc2 => ?_) (fun hc2 => ?_))
 ·
  (try simp only [nb, ne_eq] at hc2)
  have hz : echR a t p = (0, opE a t p) := by unfold echR; rw [if_pos hc2]
  refine awp_seq ?_
  refine xa 3 ?_
  refine rg_q (q_m rfl) (rg_q (q_a rfl) (rg_q (q_a rfl) ?_))
  refine xc (awp_ret ?_)
  refine ⟨_, xk2, ?_⟩
  rw [hz]; rfl
 ·
  (try simp only [nb, ne_eq] at hc2)
  have ho : opE a t p = 0 := by simpa using hc2
  obtain ⟨hok, hpk, _⟩ := op_ok ho
  have hz : echR a t p = (echI a t p, 0) := by unfold echR; rw [if_neg (by rw [ho]; simp)]
  refine awp_skip ?_
  change Awp _ _ _ _ _
  refine awp_seq ?_
  refine xa 6 ?_
  refine rg_q (q_load_refA (ds := [_, _, _, _, _, _, _, _, _, _, _]) sz110 rfl rfl rfl rfl) ?_
  refine rg_q (q_loadA (ds := [_, _]) sz37 rfl rfl rfl) ?_
  refine rg_q (q_loadA (ds := [_, _]) sz60 rfl rfl rfl) ?_
  refine rg_q (q_call en49 (.cons rfl (.cons rfl (.cons rfl .nil))) rfl (echo_p _ _ _ hpk)) ?_
  refine rg_q (q_a rfl) (rg_q (q_a rfl) ?_)
  refine xc (awp_ret ?_)
  refine ⟨_, xk2, ?_⟩
  rw [hz]; rfl
end Go.Proofs.YtkbdnkjjklbddaaGreatDoor.Am.M
-- mini
set_option maxRecDepth 100000
namespace Go.Proofs.YtkbdnkjjklbddaaGreatDoor.Am.M
open Go

structure Flw where
  kd : Int
  at_ : Int × Int
  to_ : Int × Int
  pc : Int
  am : Int
  tp : Int
def flwC (x : Flw) : List D := [.v (.int .i64 x.kd), .v (.int .i64 x.at_.1), .v (.int .i64 x.at_.2), .v (.int .i64 x.to_.1), .v (.int .i64 x.to_.2), .v (.int .i64 x.pc), .v (.int .i64 x.am), .v (.int .i64 x.tp)]
def flwE0 (x : Flw) : Int := firstE [spotE x.at_, whenI (!inR (-1000) x.am 1000) 2]
def poreE (x : Flw) : Int := whenI (!decide ([x.to_.1, x.to_.2] = [0, 0]) || decide (x.pc ≠ 0) || decide (x.tp ≠ 0)) 3
def planeE (x : Flw) : Int := firstE [spotE x.to_, whenI (!inR 1 x.pc 20 || !inR (-1000) x.tp 1000) 2, whenI (decide ([x.to_.1, x.to_.2] = [x.at_.1, x.at_.2])) 11]
def flwE (x : Flw) : Int := if ¬ (0 ≤ x.kd ∧ x.kd ≤ 1) then 15 else if flwE0 x ≠ 0 then flwE0 x else if x.kd = 0 then poreE x else planeE x
theorem checkFlaw_p (x : Flw) : PC Tryz.prog 29 [.agg (flwC x)] (.v (.int .i64 (flwE x))) := by
 refine pc_of_awp Tryz.func29 rfl Tryz.ntmps29 (rs := [.tmp 2]) Tryz.results29 (by simp) fun w0 => ?_
 refine awp_seq ?_
 refine xa 2 ?_
 refine rg_q (q_box rfl (by exact .inr ⟨_, rfl⟩)) ?_
 refine rg_q (q_a rfl) ?_
 refine rs (awp_seq ?_)
 refine xa 4 ?_
 refine rg_q (q_fieldAddr fld39_0 rfl) (rg_q (q_load sz3 rfl rfl) ?_)
 refine rg_q (q_call en25 (.cons rfl (.cons rfl (.cons rfl .nil))) rfl (bwithin_p _ _ _)) ?_
 refine rg_q (q_not rfl) ?_
 refine xc (awp_cond rfl (fun hc1 => ?_) (fun hc1 => ?_))
 ·
  (try simp only [nb, ne_eq] at hc1)
  have hz : flwE x = 15 := by unfold flwE; rw [if_pos (by simp [inR] at hc1; omega)]
  refine awp_seq ?_
  refine xa 1 ?_
  refine rg_q (q_a rfl) ?_
  refine xc (awp_ret ?_)
  refine ⟨_, xk1, ?_⟩
  rw [hz]; rfl
 ·
  (try simp only [nb, ne_eq] at hc1)
  have hk : 0 ≤ x.kd ∧ x.kd ≤ 1 := by simpa [inR] using hc1
  refine awp_skip ?_
  change Awp _ _ _ _ _
  refine awp_seq ?_
  refine awp_seq ?_
  refine xa 11 ?_
  refine rg_q (q_fieldAddr fld39_1 rfl) ?_
  refine rg_q (q_loadA (ds := [_, _]) sz37 rfl rfl rfl) ?_
  refine rg_q (q_call en58 (.cons rfl .nil) rfl (bspotErr_p _)) ?_
  refine rg_q (q_fieldAddr fld39_4 rfl) (rg_q (q_load sz3 rfl rfl) ?_)
  refine rg_q (q_call en60 (.cons rfl (.cons rfl .nil)) rfl (bsmall_p _ _ (by omega) (by omega))) ?_
  refine rg_q (q_not rfl) ?_
  refine rg_q (q_call en59 (.cons rfl (.cons rfl .nil)) rfl (when_p _ _)) ?_
  refine rg_q (q_buildSlice sl160 zr40 rfl rfl (by decide) (.cons rfl (by exact .inl rfl) (.cons rfl (by exact .inl rfl) .nil)) ⟨rfl, rfl, rfl, rfl, trivial⟩ rfl (by decide) rfl) ?_
  refine rg_q (q_call en51 (.cons rfl .nil) rfl (bfirst_p [_, _])) ?_
  refine rg_q (q_a rfl) ?_
  refine rs (xa 2 ?_)
  refine rg_q (q_m rfl) (rg_q (q_neq rfl rfl) ?_)
  refine xc (awp_cond rfl (fun hc4 => ?_) (fun hc4 => ?_))
  ·
   (try simp only [nb, ne_eq] at hc4)
   have hz : flwE x = flwE0 x := by unfold flwE; rw [if_neg (fun h => h hk), if_pos (show flwE0 x ≠ 0 from hc4)]
   refine awp_seq ?_
   refine xa 2 ?_
   refine rg_q (q_m rfl) (rg_q (q_a rfl) ?_)
   refine xc (awp_ret ?_)
   refine ⟨_, xk1, ?_⟩
   rw [hz]; rfl
  ·
   (try simp only [nb, ne_eq] at hc4)
   refine awp_skip ?_
   change Awp _ _ _ _ _
   refine awp_seq ?_
   refine awp_seq ?_
   refine xa 3 ?_
   refine rg_q (q_fieldAddr fld39_0 rfl) (rg_q (q_load sz3 rfl rfl) (rg_q (q_eql rfl rfl) ?_))
   refine xc (awp_cond rfl (fun hc6 => ?_) (fun hc6 => ?_))
   ·
    (try simp only [nb, ne_eq] at hc6)
    have hz : flwE x = poreE x := by unfold flwE; rw [if_neg (fun h => h hk), if_neg (show ¬ flwE0 x ≠ 0 from fun h => h hc4), if_pos hc6]
    refine awp_seq ?_
    refine xa 16 ?_
    refine rg_q (q_fieldAddr fld39_2 rfl) ?_
    refine rg_q (q_loadA (ds := [_, _]) sz37 rfl rfl rfl) ?_
    refine rg_q (q_build (cs := [_, _]) pl37 zr37 rfl .nil trivial rfl) ?_
    refine rg_q (q_neqI (xs := [_, _]) (ys := [_, _]) eqi37 rfl rfl rfl rfl) ?_
    refine rg_q (q_m rfl) ?_
    refine rg_g rfl rfl (fun hG => (q_fieldAddr fld39_3 rfl)) ?_
    refine rg_g rfl rfl (fun hG => (q_load sz3 rfl rfl)) ?_
    refine rg_g rfl rfl (fun hG => (q_neq rfl rfl)) ?_
    refine rg_pick rfl rfl rfl rfl rfl rfl ?_
    refine rg_q (q_m rfl) ?_
    refine rg_g rfl rfl (fun hG => (q_fieldAddr fld39_5 rfl)) ?_
    refine rg_g rfl rfl (fun hG => (q_load sz3 rfl rfl)) ?_
    refine rg_g rfl rfl (fun hG => (q_neq rfl rfl)) ?_
    refine rg_pick rfl rfl rfl rfl rfl rfl ?_
    refine rg_q (q_call en59 (.cons rfl (.cons rfl .nil)) rfl (when_p _ _)) ?_
    refine rg_q (q_a rfl) ?_
    refine xc (awp_ret ?_)
    refine ⟨_, xk1, ?_⟩
    rw [hz]; unfold poreE; simp only [bif_and, bif_or]; rfl
   ·
    (try simp only [nb, ne_eq] at hc6)
    have hz : flwE x = planeE x := by unfold flwE; rw [if_neg (fun h => h hk), if_neg (show ¬ flwE0 x ≠ 0 from fun h => h hc4), if_neg hc6]
    refine awp_skip ?_
    change Awp _ _ _ _ _
    refine awp_seq ?_
    refine xa 23 ?_
    refine rg_q (q_fieldAddr fld39_2 rfl) ?_
    refine rg_q (q_loadA (ds := [_, _]) sz37 rfl rfl rfl) ?_
    refine rg_q (q_call en58 (.cons rfl .nil) rfl (bspotErr_p _)) ?_
    refine rg_q (q_fieldAddr fld39_3 rfl) (rg_q (q_load sz3 rfl rfl) ?_)
    refine rg_q (q_call en25 (.cons rfl (.cons rfl (.cons rfl .nil))) rfl (bwithin_p _ _ _)) ?_
    refine rg_q (q_not rfl) (rg_q (q_m rfl) ?_)
    refine rg_g rfl rfl (fun hG => (q_fieldAddr fld39_5 rfl)) ?_
    refine rg_g rfl rfl (fun hG => (q_load sz3 rfl rfl)) ?_
    refine rg_g rfl rfl (fun hG => (q_call en60 (.cons rfl (.cons rfl .nil)) rfl (bsmall_p _ _ (by omega) (by omega)))) ?_
    refine rg_g rfl rfl (fun hG => (q_not rfl)) ?_
    refine rg_pick rfl rfl rfl rfl rfl rfl ?_
    refine rg_q (q_call en59 (.cons rfl (.cons rfl .nil)) rfl (when_p _ _)) ?_
    refine rg_q (q_fieldAddr fld39_2 rfl) ?_
    refine rg_q (q_loadA (ds := [_, _]) sz37 rfl rfl rfl) ?_
    refine rg_q (q_fieldAddr fld39_1 rfl) ?_
    refine rg_q (q_loadA (ds := [_, _]) sz37 rfl rfl rfl) ?_
    refine rg_q (q_eqlI (xs := [_, _]) (ys := [_, _]) eqi37 rfl rfl rfl rfl) ?_
    refine rg_q (q_call en59 (.cons rfl (.cons rfl .nil)) rfl (when_p _ _)) ?_
    refine rg_q (q_buildSlice sl160 zr40 rfl rfl (by decide) (.cons rfl (by exact .inl rfl) (.cons rfl (by exact .inl rfl) (.cons rfl (by exact .inl rfl) .nil))) ⟨rfl, rfl, rfl, rfl, rfl, rfl, trivial⟩ rfl (by decide) rfl) ?_
    refine rg_q (q_call en51 (.cons rfl .nil) rfl (bfirst_p [_, _, _])) ?_
    refine rg_q (q_a rfl) ?_
    refine xc (awp_ret ?_)
    refine ⟨_, xk1, ?_⟩
    rw [hz]; unfold planeE; simp only [bif_and, bif_or]; rfl

def plsB (n : Int) : Bool := !inR (-100) n 100
def plsE (l : List Int) : Int := if l.length = 0 then 10 else if 16 < l.length then 8 else whenI (l.any plsB) 2
theorem indexInt_p (f : Int → Bool) (g : FuncId) (cap : List D) (hen : enB Tryz.prog g = true) (l : List Int) (hf : ∀ a ∈ l, PC Tryz.prog g (.v (.int .i64 a) :: cap) (.v (.bool (f a)))) : PC Tryz.prog 117 [.sl 1 (l.map iC), .fn (.func g) cap] (.v (.int .i64 (idxOf f 0 l))) := by
 refine pc_of_awp Tryz.func117 rfl Tryz.ntmps117 (rs := [.tmp 4]) Tryz.results117 (by simp) fun w0 => ?_
 refine awp_seq ?_
 refine xa 1 ?_
 refine rg_q (q_a rfl) ?_
 refine rs (awp_seq ?_)
 refine xa 3 ?_
 refine rg_q (q_move (x := .d (.sl _ _)) rfl) ?_
 refine rg_q (q_len isl29 rfl (by exact len_map _ _)) ?_
 refine rg_q (q_m rfl) ?_
 refine xc (awp_len (t := 6) rfl (fun hl6 => ?_))
 (try simp only [List.length_map] at hl6)
 refine awp_block ?_
 refine awp_loopH [4, 5, 8, 9, 10, 11, 12, 13, 14, 15, 16, 17, 18] [] (α := Nat) (fun k => [(8, T.i (k : Int))]) (fun k => []) (fun k => k ≤ l.length ∧ idxOf f 0 l = idxOf f k (l.drop k)) (fun k => l.length - k) 0 ⟨Nat.zero_le _, rfl⟩ ?_ ?_
 · exact xh (ms := []) (by repeat (exact Out.refl _)) ⟨(by rfl), trivial⟩ trivial
 ·
  intro k ⟨hk, hh⟩
  refine awp_seq ?_
  refine xa 1 ?_
  refine rg_q (q_lss rfl rfl) ?_
  refine rs (awp_cond rfl (fun hc2 => ?_) (fun hc2 => ?_))
  ·
   (try simp only [nb, ne_eq] at hc2)
   have hlt : k < l.length := by omega
   have hx := List.getElem?_eq_getElem hlt
   have hd : idxOf f k (l.drop k) = if f l[k] = true then (k : Int) else idxOf f (k + 1) (l.drop (k + 1)) := by rw [List.drop_eq_getElem_cons hlt]; rfl
   have hfx := hf l[k] (List.getElem_mem hlt)
   generalize l[k] = x at *
   refine awp_skip ?_
   change Awp _ _ _ _ _
   refine awp_seq ?_
   refine awp_block ?_
   refine awp_seq ?_
   refine xa 2 ?_
   refine rg_q (q_m rfl) (rg_q (q_a rfl) ?_)
   refine rs (xa 6 ?_)
   refine rg_q (q_move (x := .d (.fn _ _)) rfl) (rg_q (q_move (x := .d (.sl _ _)) rfl) (rg_q (q_m rfl) ?_))
   refine rg_q (q_indexAddr sl29 rfl rfl (by omega) (map_at (by omega) hx)) ?_
   refine rg_q (q_load sz3 rfl rfl) ?_
   refine rg_q (q_callC hen rfl (.cons rfl .nil) (hfx)) ?_
   refine xc (awp_cond rfl (fun hc4 => ?_) (fun hc4 => ?_))
   ·
    (try simp only [nb, ne_eq] at hc4)
    refine awp_seq ?_
    refine xa 2 ?_
    refine rg_q (q_m rfl) (rg_q (q_a rfl) ?_)
    refine xc (awp_ret ?_)
    refine ⟨_, xk1, ?_⟩
    rw [hh, hd, if_pos (by simpa using hc4)]; rfl
   ·
    (try simp only [nb, ne_eq] at hc4)
    refine awp_skip ?_
    change Awp _ _ _ _ _
    refine xa 2 ?_
    refine rg_q (q_add rfl rfl xi) ?_
    refine rg_q (q_m rfl) ?_
    refine rn ?_
    refine ⟨k + 1, ⟨by omega, by rw [hh, hd, if_neg (by simpa using hc4)]⟩, by omega, ?_⟩
    exact xh (ms := []) (by repeat (first | exact Out.head rfl rfl | (refine Out.put ?_ rfl))) ⟨(by rfl), trivial⟩ trivial
  ·
   (try simp only [nb, ne_eq] at hc2)
   refine awp_exit ?_
   change Awp _ _ _ _ _
   refine awp_seq ?_
   refine xa 1 ?_
   refine rg_q (q_a rfl) ?_
   refine xc (awp_ret ?_)
   refine ⟨_, xk1, ?_⟩
   rw [hh, List.drop_of_length_le (by omega)]; rfl

theorem idxOf_any {α : Type} (f : α → Bool) : ∀ (l : List α) (i : Nat), decide (0 ≤ idxOf f i l) = l.any f
  | [], i => by unfold idxOf; simp
  | x :: xs, i => by
    unfold idxOf
    by_cases h : f x = true
    · rw [if_pos h]; simp [h]
    · rw [if_neg h, idxOf_any f xs]; simp [h]
theorem idxOf_mem {α : Type} (f : α → Bool) (l : List α) : decide (0 ≤ idxOf f 0 l) = l.any f := idxOf_any f l 0
theorem containsInt_p (f : Int → Bool) (g : FuncId) (cap : List D) (hen : enB Tryz.prog g = true) (l : List Int) (hf : ∀ a ∈ l, PC Tryz.prog g (.v (.int .i64 a) :: cap) (.v (.bool (f a)))) : PC Tryz.prog 96 [.sl 1 (l.map iC), .fn (.func g) cap] (.v (.bool (l.any f))) := by
 have hm := idxOf_mem f l
 refine pc_of_awp Tryz.func96 rfl Tryz.ntmps96 (rs := [.tmp 4]) Tryz.results96 (by simp) fun w0 => ?_
 refine awp_seq ?_
 refine xa 1 ?_
 refine rg_q (q_a rfl) ?_
 refine rs (xa 5 ?_)
 refine rg_q (q_move (x := .d (.sl _ _)) rfl) (rg_q (q_move (x := .d (.fn _ _)) rfl) ?_)
 refine rg_q (q_call en117 (.cons rfl (.cons rfl .nil)) rfl (indexInt_p f g cap hen l hf)) ?_
 refine rg_q (q_geq rfl rfl) (rg_q (q_a rfl) ?_)
 refine xc (awp_ret ?_)
 refine ⟨_, xk1, ?_⟩
 rw [← hm]; rfl
theorem pulse1_p (n : Int) : PC Tryz.prog 97 [.v (.int .i64 (n))] (.v (.bool (plsB n))) := by
 refine pc_of_awp Tryz.func97 rfl Tryz.ntmps97 (rs := [.tmp 2]) Tryz.results97 (by simp) fun w0 => ?_
 refine awp_seq ?_
 refine xa 1 ?_
 refine rg_q (q_a rfl) ?_
 refine rs (xa 4 ?_)
 refine rg_q (q_m rfl) ?_
 refine rg_q (q_call en60 (.cons rfl (.cons rfl .nil)) rfl (bsmall_p _ _ (by omega) (by omega))) ?_
 refine rg_q (q_not rfl) (rg_q (q_a rfl) ?_)
 refine xc (awp_ret ?_)
 refine ⟨_, xk1, ?_⟩
 rfl
theorem pulseErr_p (l : List Int) : PC Tryz.prog 64 [.sl 1 (l.map iC)] (.v (.int .i64 (plsE l))) := by
 refine pc_of_awp Tryz.func64 rfl Tryz.ntmps64 (rs := [.tmp 2]) Tryz.results64 (by simp) fun w0 => ?_
 refine awp_seq ?_
 refine xa 1 ?_
 refine rg_q (q_a rfl) ?_
 refine rs (awp_block ?_)
 refine awp_seq ?_
 refine xa 4 ?_
 refine rg_q (q_move (x := .d (.sl _ _)) rfl) ?_
 refine rg_q (q_len isl29 rfl (by exact len_map _ _)) ?_
 refine rg_q (q_eql rfl rfl) (rg_q (q_a rfl) ?_)
 refine xc (awp_len (t := 4) rfl (fun hl4 => ?_))
 (try simp only [List.length_map] at hl4)
 refine awp_cond rfl (fun hc1 => ?_) (fun hc1 => ?_)
 ·
  (try simp only [nb, ne_eq] at hc1)
  have hz : plsE l = 10 := by unfold plsE; rw [if_pos (by omega)]
  refine awp_seq ?_
  refine xa 1 ?_
  refine rg_q (q_a rfl) ?_
  refine xc (awp_ret ?_)
  refine ⟨_, xk1, ?_⟩
  rw [hz]; rfl
 ·
  (try simp only [nb, ne_eq] at hc1)
  refine awp_seq ?_
  refine xa 4 ?_
  refine rg_q (q_move (x := .d (.sl _ _)) rfl) ?_
  refine rg_q (q_len isl29 rfl (by exact len_map _ _)) ?_
  refine rg_q (q_gtr rfl rfl) (rg_q (q_a rfl) ?_)
  refine xc (awp_len (t := 8) rfl (fun hl8 => ?_))
  (try simp only [List.length_map] at hl8)
  refine awp_cond rfl (fun hc3 => ?_) (fun hc3 => ?_)
  ·
   (try simp only [nb, ne_eq] at hc3)
   have hz : plsE l = 8 := by unfold plsE; rw [if_neg (by omega), if_pos (by omega)]
   refine awp_seq ?_
   refine xa 1 ?_
   refine rg_q (q_a rfl) ?_
   refine xc (awp_ret ?_)
   refine ⟨_, xk1, ?_⟩
   rw [hz]; rfl
  ·
   (try simp only [nb, ne_eq] at hc3)
   have hz : plsE l = whenI (l.any plsB) 2 := by unfold plsE; rw [if_neg (by omega), if_neg (by omega)]
   refine awp_skip ?_
   change Awp _ _ _ _ _
   refine awp_seq ?_
   refine xa 4 ?_
   refine rg_q (q_move (x := .d (.sl _ _)) rfl) ?_
   refine rg_q (q_call en96 (.cons rfl (.cons rfl .nil)) rfl (containsInt_p plsB 97 [] en97 l (fun a _ => pulse1_p a))) ?_
   refine rg_q (q_call en59 (.cons rfl (.cons rfl .nil)) rfl (when_p _ _)) ?_
   refine rg_q (q_a rfl) ?_
   refine xc (awp_ret ?_)
   refine ⟨_, xk1, ?_⟩
   rw [hz]; rfl
end Go.Proofs.YtkbdnkjjklbddaaGreatDoor.Am.M
-- mini
set_option maxRecDepth 100000
namespace Go.Proofs.YtkbdnkjjklbddaaGreatDoor.Am.M
open Go

structure Spc where
  ar : Arr
  pl : List Int
  fl : List Flw
def spcC (s : Spc) : List D := [.sl 2 (s.ar.el.map shC), .v (.int .i64 s.ar.ou.w), .v (.int .i64 s.ar.ou.m), .v (.int .i64 s.ar.ou.k), .v (.int .i64 s.ar.ou.t), .v (.int .i64 s.ar.ba.w), .v (.int .i64 s.ar.ba.m), .v (.int .i64 s.ar.ba.k), .v (.int .i64 s.ar.ba.t), .v (.int .i64 s.ar.ts.1), .v (.int .i64 s.ar.ts.2), .sl 1 (s.pl.map iC), .sl 8 (s.fl.map flwC)]
def flE (t : Int) (x : Flw) : Int := if firstE [flwE x, plateE x.at_.2 t] = 0 ∧ x.kd = 1 then plateE x.to_.2 t else firstE [flwE x, plateE x.at_.2 t]
def ckFls (t : Int) : Nat → List Flw → Int × Int
  | _, [] => (0, 0)
  | i, x :: xs => if flE t x ≠ 0 then (i, flE t x) else ckFls t (i + 1) xs
def spcE0 (s : Spc) : Int := firstE [plsE s.pl, whenI (decide (10 < (s.fl.length : Int))) 8]
def ckSpc (s : Spc) : Int × Int := if (ckArr s.ar).2 ≠ 0 then ckArr s.ar else if spcE0 s ≠ 0 then (0, spcE0 s) else ckFls s.ar.ou.t 0 s.fl
theorem ckFls_at {t : Int} {l : List Flw} {k : Nat} {x : Flw} (hx : l[k]? = some x) : ckFls t k (l.drop k) = if flE t x ≠ 0 then ((k : Int), flE t x) else ckFls t (k + 1) (l.drop (k + 1)) := by
  obtain ⟨hlt, rfl⟩ := List.getElem?_eq_some_iff.1 hx
  rw [List.drop_eq_getElem_cons hlt]; rfl
theorem checkSpecimen_p (s : Spc) : PC Tryz.prog 35 [.agg (spcC s)] (.tup [.v (.int .i64 ((ckSpc s).1)), .v (.int .i64 ((ckSpc s).2))]) := by
 refine pc_of_awp Tryz.func35 rfl Tryz.ntmps35 (rs := [.tmp 2, .tmp 3]) Tryz.results35 (by simp) fun w0 => ?_
 refine awp_seq ?_
 refine xa 3 ?_
 refine rg_q (q_box rfl (by exact .inr ⟨_, rfl⟩)) ?_
 refine rg_q (q_a rfl) (rg_q (q_a rfl) ?_)
 refine rs (awp_seq ?_)
 refine xa 8 ?_
 refine rg_q (q_fieldAddr fld32_0 rfl) ?_
 refine rg_q (q_loadA (ds := [_, _, _, _, _, _, _, _, _, _, _]) sz28 rfl rfl rfl) ?_
 refine rg_q (q_call en63 (.cons rfl .nil) rfl (checkArray_p s.ar)) ?_
 refine rg_q (q_move (x := .d (.tup _)) rfl) (rg_q (q_extract rfl rfl) (rg_q (q_extract rfl rfl) (rg_q (q_a rfl) (rg_q (q_a rfl) ?_))))
 refine rs (xa 2 ?_)
 refine rg_q (q_m rfl) (rg_q (q_neq rfl rfl) ?_)
 refine xc (awp_cond rfl (fun hc2 => ?_) (fun hc2 => ?_))
 ·
  (try simp only [nb, ne_eq] at hc2)
  have hz : ckSpc s = ckArr s.ar := by unfold ckSpc; rw [if_pos hc2]
  refine awp_seq ?_
  refine xa 4 ?_
  refine rg_q (q_m rfl) (rg_q (q_m rfl) (rg_q (q_a rfl) (rg_q (q_a rfl) ?_)))
  refine xc (awp_ret ?_)
  refine ⟨_, xk2, ?_⟩
  rw [hz]; rfl
 ·
  (try simp only [nb, ne_eq] at hc2)
  have hck : (ckArr s.ar).2 = 0 := by simpa using hc2
  have hok := (ckArr_ok hck).1
  have ht1 := hok.ou.t1
  have ht2 := hok.ou.t2
  refine awp_skip ?_
  change Awp _ _ _ _ _
  refine awp_seq ?_
  refine awp_seq ?_
  refine xa 11 ?_
  refine rg_q (q_fieldAddr fld32_1 rfl) (rg_q (q_load sz29 rfl rfl) ?_)
  refine rg_q (q_call en64 (.cons rfl .nil) rfl (pulseErr_p _)) ?_
  refine rg_q (q_fieldAddr fld32_2 rfl) (rg_q (q_load sz30 rfl rfl) ?_)
  refine rg_q (q_len isl30 rfl (by exact len_map _ _)) ?_
  refine rg_q (q_gtr rfl rfl) ?_
  refine rg_q (q_call en59 (.cons rfl (.cons rfl .nil)) rfl (when_p _ _)) ?_
  refine rg_q (q_buildSlice sl160 zr40 rfl rfl (by decide) (.cons rfl (by exact .inl rfl) (.cons rfl (by exact .inl rfl) .nil)) ⟨rfl, rfl, rfl, rfl, trivial⟩ rfl (by decide) rfl) ?_
  refine rg_q (q_call en51 (.cons rfl .nil) rfl (bfirst_p [_, _])) ?_
  refine rg_q (q_a rfl) ?_
  refine xc (awp_len (t := 25) rfl (fun hl25 => ?_))
  (try simp only [List.length_map] at hl25)
  refine awp_seq ?_
  refine xa 2 ?_
  refine rg_q (q_m rfl) (rg_q (q_neq rfl rfl) ?_)
  refine xc (awp_cond rfl (fun hc5 => ?_) (fun hc5 => ?_))
  ·
   (try simp only [nb, ne_eq] at hc5)
   have hz : ckSpc s = (0, spcE0 s) := by unfold ckSpc; rw [if_neg (by rw [hck]; simp), if_pos (show spcE0 s ≠ 0 from hc5)]
   refine awp_seq ?_
   refine xa 3 ?_
   refine rg_q (q_m rfl) (rg_q (q_a rfl) (rg_q (q_a rfl) ?_))
   refine xc (awp_ret ?_)
   refine ⟨_, xk2, ?_⟩
   rw [hz]; rfl
  ·
   (try simp only [nb, ne_eq] at hc5)
   have hz : ckSpc s = ckFls s.ar.ou.t 0 s.fl := by unfold ckSpc; rw [if_neg (by rw [hck]; simp), if_neg (show ¬ spcE0 s ≠ 0 from fun h => h hc5)]
   refine awp_skip ?_
   change Awp _ _ _ _ _
   refine awp_seq ?_
   refine xa 5 ?_
   refine rg_q (q_fieldAddr fld32_0 rfl) (rg_q (q_fieldAddr fld28_1 rfl) (rg_q (q_fieldAddr fld24_3 rfl) (rg_q (q_load sz3 rfl rfl) (rg_q (q_a rfl) ?_))))
   refine rs (awp_seq ?_)
   refine xa 4 ?_
   refine rg_q (q_fieldAddr fld32_2 rfl) (rg_q (q_load sz30 rfl rfl) ?_)
   refine rg_q (q_len isl30 rfl (by exact len_map _ _)) ?_
   refine rg_q (q_m rfl) ?_
   refine xc (awp_len (t := 39) rfl (fun hl39 => ?_))
   (try simp only [List.length_map] at hl39)
   refine awp_block ?_
   refine awp_loopH [2, 3, 8, 9, 10, 41, 42, 43, 44, 45, 46, 47, 48, 49, 50, 51, 52, 53, 54, 55, 56, 57, 58, 59, 60, 61, 62, 63, 64, 65, 66, 67, 68, 69] [] (α := Nat) (fun k => [(41, T.i (k : Int))]) (fun k => []) (fun k => k ≤ s.fl.length ∧ ckFls s.ar.ou.t 0 s.fl = ckFls s.ar.ou.t k (s.fl.drop k)) (fun k => s.fl.length - k) 0 ⟨Nat.zero_le _, rfl⟩ ?_ ?_
   · exact xh (ms := []) (by repeat (exact Out.refl _)) ⟨(by rfl), trivial⟩ trivial
   ·
    intro k ⟨hk, hf⟩
    refine awp_seq ?_
    refine xa 1 ?_
    refine rg_q (q_lss rfl rfl) ?_
    refine rs (awp_cond rfl (fun hc9 => ?_) (fun hc9 => ?_))
    ·
     (try simp only [nb, ne_eq] at hc9)
     have hlt : k < s.fl.length := by omega
     obtain ⟨x, hx⟩ : ∃ x, s.fl[k]? = some x := ⟨_, List.getElem?_eq_getElem hlt⟩
     have hd := ckFls_at (t := s.ar.ou.t) hx
     refine awp_skip ?_
     change Awp _ _ _ _ _
     refine awp_seq ?_
     refine awp_block ?_
     refine awp_seq ?_
     refine xa 3 ?_
     refine rg_q (q_m rfl) ?_
     refine rg_q (q_indexAddr sl30 rfl rfl (by omega) (map_at (by omega) hx)) ?_
     refine rg_q (q_loadA (ds := [_, _, _, _, _, _, _, _]) sz39 rfl rfl rfl) ?_
     refine rg_nil ?_
     refine aops_alloc zr39 rfl rfl rfl ?_
     refine aops_q rfl (q_a rfl) ?_
     refine aops_store sz39 rfl rfl (by exact .inr ⟨_, rfl⟩) rfl rfl (by decide) rfl ?_
     refine aops_nil (xq (xa 9 ?_))
     refine rg_q (q_load_refA (ds := [_, _, _, _, _, _, _, _]) sz39 rfl rfl rfl rfl) ?_
     refine rg_q (q_call en29 (.cons rfl .nil) rfl (checkFlaw_p x)) ?_
     refine rg_q (q_fieldAddr_ref fld39_1 rfl) ?_
     refine rg_q (q_load_refA (ds := [_, _]) sz37 rfl rfl rfl rfl) ?_
     refine rg_q (q_m rfl) ?_
     refine rg_q (q_call en65 (.cons rfl (.cons rfl .nil)) rfl (plateErr_p x.at_ _ ht1 ht2)) ?_
     refine rg_q (q_buildSlice sl160 zr40 rfl rfl (by decide) (.cons rfl (by exact .inl rfl) (.cons rfl (by exact .inl rfl) .nil)) ⟨rfl, rfl, rfl, rfl, trivial⟩ rfl (by decide) rfl) ?_
     refine rg_q (q_call en51 (.cons rfl .nil) rfl (bfirst_p [_, _])) ?_
     refine rg_q (q_a rfl) ?_
     refine rs (awp_seq ?_)
     refine xa 7 ?_
     refine rg_q (q_m rfl) (rg_q (q_eql rfl rfl) (rg_q (q_m rfl) ?_))
     refine rg_g rfl rfl (fun hG => (q_fieldAddr_ref fld39_0 rfl)) ?_
     refine rg_g rfl rfl (fun hG => (q_load_ref sz3 rfl rfl rfl)) ?_
     refine rg_g rfl rfl (fun hG => (q_eql rfl rfl)) ?_
     refine rg_pick rfl rfl rfl rfl rfl rfl ?_
     refine xc (awp_cond rfl (fun hc12 => ?_) (fun hc12 => ?_))
     ·
      (try simp only [nb, ne_eq] at hc12)
      have hfe : flE s.ar.ou.t x = plateE x.to_.2 s.ar.ou.t := by unfold flE; rw [if_pos hc12]
      refine xa 5 ?_
      refine rg_q (q_fieldAddr_ref fld39_2 rfl) ?_
      refine rg_q (q_load_refA (ds := [_, _]) sz37 rfl rfl rfl rfl) ?_
      refine rg_q (q_m rfl) ?_
      refine rg_q (q_call en65 (.cons rfl (.cons rfl .nil)) rfl (plateErr_p x.to_ _ ht1 ht2)) ?_
      refine rg_q (q_a rfl) ?_
      refine rs (xa 2 ?_)
      refine rg_q (q_m rfl) (rg_q (q_neq rfl rfl) ?_)
      refine xc (awp_cond rfl (fun hc14 => ?_) (fun hc14 => ?_))
      ·
       (try simp only [nb, ne_eq] at hc14)
       refine awp_seq ?_
       refine xa 4 ?_
       refine rg_q (q_m rfl) (rg_q (q_m rfl) (rg_q (q_a rfl) (rg_q (q_a rfl) ?_)))
       refine xc (awp_ret ?_)
       refine ⟨_, xk2, ?_⟩
       rw [hz, hf, hd, if_pos (by rw [hfe]; simpa using hc14), hfe]; rfl
      ·
       (try simp only [nb, ne_eq] at hc14)
       refine awp_skip ?_
       change Awp _ _ _ _ _
       refine xa 2 ?_
       refine rg_q (q_add rfl rfl xi) ?_
       refine rg_q (q_m rfl) ?_
       refine rn ?_
       refine ⟨k + 1, ⟨by omega, by rw [hf, hd, if_neg (by rw [hfe]; simpa using hc14)]⟩, by omega, ?_⟩
       exact xh (ms := []) (by repeat (first | exact Out.head rfl rfl | (refine Out.put ?_ rfl) | (refine Out.site ?_ rfl))) ⟨(by rfl), trivial⟩ trivial
     ·
      (try simp only [nb, ne_eq] at hc12)
      have hfe : flE s.ar.ou.t x = firstE [flwE x, plateE x.at_.2 s.ar.ou.t] := by unfold flE; rw [if_neg (fun h => hc12.elim (fun q => q h.1) (fun q => q h.2))]
      refine awp_skip ?_
      change Awp _ _ _ _ _
      refine awp_seq ?_
      refine xa 2 ?_
      refine rg_q (q_m rfl) (rg_q (q_neq rfl rfl) ?_)
      refine xc (awp_cond rfl (fun hc14 => ?_) (fun hc14 => ?_))
      ·
       (try simp only [nb, ne_eq] at hc14)
       refine awp_seq ?_
       refine xa 4 ?_
       refine rg_q (q_m rfl) (rg_q (q_m rfl) (rg_q (q_a rfl) (rg_q (q_a rfl) ?_)))
       refine xc (awp_ret ?_)
       refine ⟨_, xk2, ?_⟩
       rw [hz, hf, hd, if_pos (by rw [hfe]; simpa using hc14), hfe]; rfl
      ·
       (try simp only [nb, ne_eq] at hc14)
       refine awp_skip ?_
       change Awp _ _ _ _ _
       refine xa 2 ?_
       refine rg_q (q_add rfl rfl xi) ?_
       refine rg_q (q_m rfl) ?_
       refine rn ?_
       refine ⟨k + 1, ⟨by omega, by rw [hf, hd, if_neg (by rw [hfe]; simpa using hc14)]⟩, by omega, ?_⟩
       exact xh (ms := []) (by repeat (first | exact Out.head rfl rfl | (refine Out.put ?_ rfl) | (refine Out.site ?_ rfl))) ⟨(by rfl), trivial⟩ trivial
    ·
     (try simp only [nb, ne_eq] at hc9)
     have hk0 : ckFls s.ar.ou.t 0 s.fl = (0, 0) := by rw [hf, List.drop_of_length_le (by omega)]; rfl
     refine awp_exit ?_
     change Awp _ _ _ _ _
     refine awp_seq ?_
     refine xa 2 ?_
     refine rg_q (q_a rfl) (rg_q (q_a rfl) ?_)
     refine xc (awp_ret ?_)
     refine ⟨_, xk2, ?_⟩
     rw [hz, hk0]; rfl
end Go.Proofs.YtkbdnkjjklbddaaGreatDoor.Am.M
-- mini
set_option maxRecDepth 100000
namespace Go.Proofs.YtkbdnkjjklbddaaGreatDoor.Am.M
open Go

def iv (n : Int) : D := .v (.int .i64 n)
def fv (n : Int) : D := .v (.float .f32 (FloatKind.f32.nearest n))
def fC (b : Nat) : List D := [.v (.float .f32 b)]
theorem iv_row (S : List Int) : ((S.map iv).map fun d => [d]) = S.map iC := by rw [List.map_map]; rfl
theorem iv_at {S : List Int} {k : Nat} {x : Int} (h : S[k]? = some x) : (S.map iv)[k]? = some (iv x) := by rw [List.getElem?_map, h]; rfl
def adT (S p : List Int) (a t : Int) : Nat → List Int
  | 0 => S
  | k + 1 => if 0 ≤ t + (k : Int) ∧ t + (k : Int) ≤ 63 then (adT S p a t k).set (t + (k : Int)).toNat ((adT S p a t k).getD (t + (k : Int)).toNat 0 + a * p.getD k 0) else adT S p a t k
theorem adT_len {S p : List Int} {a t : Int} : ∀ k : Nat, (adT S p a t k).length = S.length
  | 0 => rfl
  | k + 1 => by
    unfold adT
    split
    · rw [List.length_set]; exact adT_len k
    · exact adT_len k
theorem adT_in {S p : List Int} {a t B : Int} (hS : ∀ v ∈ S, -B ≤ v ∧ v ≤ B) (hp : ∀ n ∈ p, -100000 ≤ a * n ∧ a * n ≤ 100000) : ∀ k : Nat, ∀ v ∈ adT S p a t k, -(B + 100000 * (k : Int)) ≤ v ∧ v ≤ B + 100000 * (k : Int)
  | 0, v, hv => by have := hS v hv; omega
  | k + 1, v, hv => by
    have ih := adT_in (t := t) hS hp k
    unfold adT at hv
    split at hv
    · rcases List.mem_or_eq_of_mem_set hv with h | h
      · have := ih v h; omega
      · subst h
        have h1 : -(B + 100000 * (k : Int)) ≤ (adT S p a t k).getD (t + (k : Int)).toNat 0 ∧ (adT S p a t k).getD (t + (k : Int)).toNat 0 ≤ B + 100000 * (k : Int) := by
          rw [List.getD_eq_getElem?_getD]
          cases hx : (adT S p a t k)[(t + (k : Int)).toNat]? with
          | none =>
            have hB : 0 ≤ B + 100000 * (k : Int) := by
              rename_i hc
              rcases Nat.lt_or_ge (t + (k : Int)).toNat (adT S p a t k).length with q | q
              · rw [List.getElem?_eq_getElem q] at hx; cases hx
              · rw [List.set_eq_of_length_le q] at hv
                have := ih _ hv
                omega
            simp only [Option.getD_none]; omega
          | some u => have := ih u (List.mem_of_getElem? hx); simpa using this
        have h2 : -100000 ≤ a * p.getD k 0 ∧ a * p.getD k 0 ≤ 100000 := by
          rw [List.getD_eq_getElem?_getD]
          cases hx : p[k]? with
          | none => simp
          | some u => simpa using hp u (List.mem_of_getElem? hx)
        omega
    · have := ih v hv; omega
theorem sampAdd_p (S p : List Int) (a t B : Int) (hS : S.length = 64) (hSb : ∀ v ∈ S, -B ≤ v ∧ v ≤ B) (hB : B ≤ 1000000000000) (hp : p.length ≤ 1000) (hpb : ∀ n ∈ p, -100000 ≤ a * n ∧ a * n ≤ 100000) (ht : -10000000000000 ≤ t ∧ t ≤ 10000000000000) : PCS Tryz.prog 84 [.ref 0 0, .d (.sl 1 (p.map iC)), .d (.v (.int .i64 a)), .d (.v (.int .i64 t))] [.box (S.map iv)] (.d (.tup [])) [.box ((adT S p a t p.length).map iv)] := by
 obtain ⟨ht1, ht2⟩ := ht
 refine pcs_of_awp Tryz.func84 rfl Tryz.ntmps84 (rs := []) Tryz.results84 (by simp) fun w0 => ?_
 refine awp_seq ?_
 refine xa 3 ?_
 refine rg_q (q_move (x := .d (.sl _ _)) rfl) ?_
 refine rg_q (q_len isl29 rfl (by exact len_map _ _)) ?_
 refine rg_q (q_m rfl) ?_
 refine xc (awp_len (t := 11) rfl (fun hl11 => ?_))
 (try simp only [List.length_map] at hl11)
 refine awp_block ?_
 refine awp_loopH [8, 9, 10, 13, 14, 15, 16, 17, 18, 19, 20, 21, 22, 23, 24, 25, 26, 27, 28, 29, 30, 31, 32, 33, 34] [35] (α := Nat) (fun k => [(13, T.i (k : Int))]) (fun k => [(35, .box ((adT S p a t k).map iv))]) (fun k => k ≤ p.length) (fun k => p.length - k) 0 (Nat.zero_le _) ?_ ?_
 · exact xh (ms := [35]) (by repeat (exact Out.refl _)) ⟨(by rfl), trivial⟩ ⟨(by rfl), trivial⟩
 ·
  intro k hk
  refine awp_seq ?_
  refine xa 1 ?_
  refine rg_q (q_lss rfl rfl) ?_
  refine rs (awp_cond rfl (fun hc1 => ?_) (fun hc1 => ?_))
  ·
   (try simp only [nb, ne_eq] at hc1)
   have hlt : k < p.length := by omega
   obtain ⟨x, hx⟩ : ∃ x, p[k]? = some x := ⟨_, List.getElem?_eq_getElem hlt⟩
   have hxb := hpb x (List.mem_of_getElem? hx)
   have hal := adT_len (S := S) (p := p) (a := a) (t := t) k
   have hin := adT_in (t := t) hSb hpb k
   have hpd : p.getD k 0 = x := by rw [List.getD_eq_getElem?_getD, hx]; rfl
   refine awp_skip ?_
   change Awp _ _ _ _ _
   refine awp_seq ?_
   refine awp_block ?_
   refine awp_seq ?_
   refine xa 5 ?_
   refine rg_q (q_m rfl) ?_
   refine rg_q (q_indexAddr sl29 rfl rfl (by omega) (map_at (by omega) hx)) ?_
   refine rg_q (q_load sz3 rfl rfl) (rg_q (q_a rfl) (rg_q (q_a rfl) ?_))
   refine rs (xa 4 ?_)
   refine rg_q (q_m rfl) (rg_q (q_m rfl) ?_)
   refine rg_q (q_add rfl rfl xi) ?_
   refine rg_q (q_a rfl) ?_
   refine rs (xa 2 ?_)
   refine rg_q (q_m rfl) ?_
   refine rg_q (q_call en25 (.cons rfl (.cons rfl (.cons rfl .nil))) rfl (bwithin_p _ _ _)) ?_
   refine xc (awp_cond rfl (fun hc4 => ?_) (fun hc4 => ?_))
   ·
    (try simp only [nb, ne_eq] at hc4)
    have hkk : 0 ≤ t + (k : Int) ∧ t + (k : Int) ≤ 63 := by simpa [inR] using hc4
    obtain ⟨g1, g2⟩ := hkk
    have hul : (t + (k : Int)).toNat < (adT S p a t k).length := by omega
    obtain ⟨u, hu⟩ : ∃ u, (adT S p a t k)[(t + (k : Int)).toNat]? = some u := ⟨_, List.getElem?_eq_getElem hul⟩
    have hub := hin u (List.mem_of_getElem? hu)
    have hld : ((adT S p a t k).map iv)[0 + (t + (k : Int)).toNat * 1]? = some (iv u) := by rw [Nat.zero_add, Nat.mul_one]; exact iv_at hu
    have hst : setCs ((adT S p a t k).map iv) (0 + (t + (k : Int)).toNat * 1) [iv (u + a * x)] = (adT S p a t (k + 1)).map iv := by
     rw [Nat.zero_add, Nat.mul_one, setCs_one (by rw [List.length_map]; exact hul)]
     have e : adT S p a t (k + 1) = (adT S p a t k).set (t + (k : Int)).toNat (u + a * x) := by
      show (if 0 ≤ t + (k : Int) ∧ t + (k : Int) ≤ 63 then _ else _) = _
      rw [if_pos ⟨g1, g2⟩, hpd, List.getD_eq_getElem?_getD, hu]; rfl
     rw [e, List.map_set]
    refine xa 11 ?_
    refine rg_q (q_move (x := .ref _ _) rfl) (rg_q (q_m rfl) (rg_q (q_nilCheck_ref rfl) ?_))
    refine rg_q (q_indexAddr_aref ar162 rfl rfl (by omega) (by omega)) ?_
    refine rg_q (q_load_ref sz3 rfl rfl hld) (rg_q (q_m rfl) (rg_q (q_m rfl) ?_))
    refine rg_q (q_mul rfl rfl xi) ?_
    refine rg_q (q_add rfl rfl xi) ?_
    refine rg_q (q_nilCheck_ref rfl) ?_
    refine rg_q (q_indexAddr_aref ar162 rfl rfl (by omega) (by omega)) ?_
    refine rg_nil ?_
    refine aops_store (cs' := (adT S p a t (k + 1)).map iv) sz3 rfl rfl (by exact .inl rfl) rfl rfl (by rw [List.length_map]; omega) hst ?_
    refine aops_nil ?_
    change Awp _ _ _ _ _
    refine xa 2 ?_
    refine rg_q (q_add rfl rfl xi) ?_
    refine rg_q (q_m rfl) ?_
    refine rn ?_
    refine ⟨k + 1, by omega, by omega, ?_⟩
    exact xh (ms := [35]) (by repeat (first | exact Out.head rfl rfl | (refine Out.put ?_ rfl) | (refine Out.site ?_ rfl))) ⟨(by rfl), trivial⟩ ⟨(by rfl), trivial⟩
   ·
    (try simp only [nb, ne_eq] at hc4)
    have hst : adT S p a t k = adT S p a t (k + 1) := by
     show _ = (if 0 ≤ t + (k : Int) ∧ t + (k : Int) ≤ 63 then _ else _)
     rw [if_neg]
     intro q
     have : inR 0 (t + (k : Int)) 63 = true := by simp [inR]; omega
     rw [this] at hc4; cases hc4
    refine awp_skip ?_
    change Awp _ _ _ _ _
    refine xa 2 ?_
    refine rg_q (q_add rfl rfl xi) ?_
    refine rg_q (q_m rfl) ?_
    refine rn ?_
    refine ⟨k + 1, by omega, by omega, ?_⟩
    exact xh (ms := [35]) (by repeat (first | exact Out.head rfl rfl | (refine Out.put ?_ rfl))) ⟨(by rfl), trivial⟩ ⟨(by (show Site.box _ = Site.box _; rw [hst])), trivial⟩
  ·
   (try simp only [nb, ne_eq] at hc1)
   have hkp : k = p.length := by omega
   have hend : adT S p a t k = adT S p a t p.length := by rw [hkp]
   refine awp_exit ?_
   exact end_mk (.inr rfl) [35] .none (by repeat (first | exact trivial | refine ⟨(by (rw [hend]; rfl)), ?_⟩)) rfl

def fz : D := .v (.float .f32 0)
def outT (S : List Int) (k : Nat) : List D := (S.take k).map fv ++ List.replicate (64 - k) fz
theorem setCs_all {cs xs : List D} (h : xs.length = cs.length) : setCs cs 0 xs = xs := by
  unfold setCs
  rw [List.take_zero, Nat.zero_add, h, List.drop_length]; simp
theorem outT_set {S : List Int} {k : Nat} {x : Int} (hS : S.length = 64) (h : S[k]? = some x) : setCs (outT S k) (0 + (k : Int).toNat * 1) [fv x] = outT S (k + 1) := by
  obtain ⟨hlt, hx⟩ := List.getElem?_eq_some_iff.1 h
  have hl : ((S.take k).map fv).length = k := by rw [List.length_map, List.length_take]; omega
  rw [Int.toNat_natCast, Nat.zero_add, Nat.mul_one, setCs_one (by unfold outT; rw [List.length_append, hl, List.length_replicate]; omega)]
  unfold outT
  rw [List.set_append_right _ _ (by omega), hl, Nat.sub_self, show 64 - k = (64 - (k + 1)) + 1 by omega, List.replicate_succ, List.set_cons_zero, List.take_succ_eq_append_getElem hlt, hx, List.map_append, List.append_assoc]
  rfl
theorem outT_all {S : List Int} (hS : S.length = 64) : outT S 64 = S.map fv := by
  unfold outT
  rw [List.take_of_length_le (by omega)]; simp
def bigB (n : Int) : Bool := !inR (-2047) n 2047
def fd (b : Nat) : D := .v (.float .f32 b)
theorem fd_row (l : List Nat) : ((l.map fd).map fun d => [d]) = l.map fC := by rw [List.map_map]; rfl
theorem trace_p (S : List Int) (hS : S.length = 64) : PC Tryz.prog 87 [.pt (S.map iv) 0] (.agg (S.map fv)) := by
 refine pc_of_awp Tryz.func87 rfl Tryz.ntmps87 (rs := [.cell 2 63]) Tryz.results87 (by simp) fun w0 => ?_
 refine awp_seq ?_
 refine xa 0 ?_
 refine rg_nil ?_
 refine aops_alloc zr63 rfl rfl rfl ?_
 refine aops_nil (xq (xa 0 ?_))
 refine rg_nil ?_
 refine aops_alloc zr63 rfl rfl rfl ?_
 refine aops_nil (xq (awp_seq ?_))
 refine xa 2 ?_
 refine rg_q (q_move (x := .d (.pt _ _)) rfl) (rg_q (q_m rfl) ?_)
 refine xc (awp_block ?_)
 refine awp_loopH [4, 5, 7, 8, 9, 10, 11, 12, 13, 14, 15, 16, 17] [3] (α := Nat) (fun k => [(7, T.i (k : Int))]) (fun k => [(3, .box (outT S k))]) (fun k => k ≤ 64) (fun k => 64 - k) 0 (Nat.zero_le _) ?_ ?_
 · exact xh (ms := [3]) (by repeat (exact Out.refl _)) ⟨(by rfl), trivial⟩ ⟨(by rfl), trivial⟩
 ·
  intro k hk
  refine awp_seq ?_
  refine xa 1 ?_
  refine rg_q (q_lss rfl rfl) ?_
  refine rs (awp_cond rfl (fun hc3 => ?_) (fun hc3 => ?_))
  ·
   (try simp only [nb, ne_eq] at hc3)
   have hlt : k < S.length := by omega
   obtain ⟨x, hx⟩ : ∃ x, S[k]? = some x := ⟨_, List.getElem?_eq_getElem hlt⟩
   have hld : (S.map iv)[0 + (k : Int).toNat * 1]? = some (iv x) := by rw [Int.toNat_natCast, Nat.zero_add, Nat.mul_one]; exact iv_at hx
   have hst := outT_set hS hx
   have hol : (outT S k).length = 64 := by unfold outT; rw [List.length_append, List.length_map, List.length_take, List.length_replicate]; omega
   refine awp_skip ?_
   change Awp _ _ _ _ _
   refine awp_seq ?_
   refine awp_block ?_
   refine awp_seq ?_
   refine xa 6 ?_
   refine rg_q (q_m rfl) (rg_q (q_nilCheck rfl) ?_)
   refine rg_q (q_indexAddr_ar ar162 rfl rfl (by omega) (by omega)) ?_
   refine rg_q (q_load sz3 rfl hld) (rg_q (q_a rfl) (rg_q (q_a rfl) ?_))
   refine rn ?_
   change Awp _ _ _ _ _
   refine xa 4 ?_
   refine rg_q (q_m rfl) (rg_q (q_m rfl) ?_)
   refine rg_q (q_convf int3 flt61 rfl) ?_
   refine rg_q (q_indexAddr_aref ar63 rfl rfl (by omega) (by omega)) ?_
   refine rg_nil ?_
   refine aops_store (cs' := outT S (k + 1)) sz61 rfl rfl (by exact .inl rfl) rfl rfl (by rw [hol]; omega) hst ?_
   refine aops_nil ?_
   change Awp _ _ _ _ _
   refine xa 2 ?_
   refine rg_q (q_add rfl rfl xi) ?_
   refine rg_q (q_m rfl) ?_
   refine rn ?_
   refine ⟨k + 1, by omega, by omega, ?_⟩
   exact xh (ms := [3]) (by repeat (first | exact Out.head rfl rfl | (refine Out.put ?_ rfl) | (refine Out.site ?_ rfl))) ⟨(by rfl), trivial⟩ ⟨(by rfl), trivial⟩
  ·
   (try simp only [nb, ne_eq] at hc3)
   have hk64 : k = 64 := by omega
   subst hk64
   rw [outT_all hS]
   refine awp_exit ?_
   change Awp _ _ _ _ _
   refine awp_seq ?_
   refine xa 1 ?_
   refine rg_q (q_load_refA (ds := S.map fv) sz63 rfl rfl (by rw [List.drop_zero]; exact List.take_of_length_le (by rw [List.length_map]; omega)) (by rw [List.length_map]; exact hS)) ?_
   refine rg_nil ?_
   refine aops_store (cs' := S.map fv) sz63 rfl rfl (by exact .inr ⟨_, rfl⟩) (by show (S.map fv).length = 64; rw [List.length_map]; exact hS) rfl (Nat.le_of_ble_eq_true rfl) (setCs_all (by show (S.map fv).length = 64; rw [List.length_map]; exact hS)) ?_
   refine aops_nil ?_
   change Awp _ _ _ _ _
   refine awp_ret ?_
   refine ⟨_, (.cons (.cellA rfl rfl sz63 (by show (S.map fv).length = _; rw [List.length_map]; exact hS)) .nil), ?_⟩
   rfl
theorem big1_p (n : Int) : PC Tryz.prog 110 [.v (.int .i64 (n))] (.v (.bool (bigB n))) := by
 refine pc_of_awp Tryz.func110 rfl Tryz.ntmps110 (rs := [.tmp 2]) Tryz.results110 (by simp) fun w0 => ?_
 refine awp_seq ?_
 refine xa 1 ?_
 refine rg_q (q_a rfl) ?_
 refine rs (xa 4 ?_)
 refine rg_q (q_m rfl) ?_
 refine rg_q (q_call en60 (.cons rfl (.cons rfl .nil)) rfl (bsmall_p _ _ (by omega) (by omega))) ?_
 refine rg_q (q_not rfl) (rg_q (q_a rfl) ?_)
 refine xc (awp_ret ?_)
 refine ⟨_, xk1, ?_⟩
 rfl
theorem tooLarge_p (S : List Int) (hS : S.length = 64) : PC Tryz.prog 86 [.pt (S.map iv) 0] (.v (.int .i64 (whenI (S.any bigB) 8))) := by
 refine pc_of_awp Tryz.func86 rfl Tryz.ntmps86 (rs := [.tmp 2]) Tryz.results86 (by simp) fun w0 => ?_
 refine awp_seq ?_
 refine xa 1 ?_
 refine rg_q (q_a rfl) ?_
 refine rs (xa 6 ?_)
 refine rg_q (q_move (x := .d (.pt _ _)) rfl) (rg_q (q_nilCheck rfl) ?_)
 refine rg_q (q_sliceP (es := S.map iC) ar162 rfl (by rw [List.length_map]; exact hS) (by decide) (by decide) (iv_row S)) ?_
 refine rg_q (q_call en96 (.cons rfl (.cons rfl .nil)) rfl (containsInt_p bigB 110 [] en110 S (fun a _ => big1_p a))) ?_
 refine rg_q (q_call en59 (.cons rfl (.cons rfl .nil)) rfl (when_p _ _)) ?_
 refine rg_q (q_a rfl) ?_
 refine xc (awp_ret ?_)
 refine ⟨_, xk1, ?_⟩
 rfl
theorem sameFloats_p (l m : List Nat) : PC Tryz.prog 56 [.sl 1 (l.map fC), .sl 1 (m.map fC)] (.v (.bool (decide (l = m)))) := by
 refine pc_of_awp Tryz.func56 rfl Tryz.ntmps56 (rs := [.tmp 4]) Tryz.results56 (by simp) fun w0 => ?_
 refine awp_seq ?_
 refine xa 1 ?_
 refine rg_q (q_a rfl) ?_
 refine rs (awp_seq ?_)
 refine xa 5 ?_
 refine rg_q (q_move (x := .d (.sl _ _)) rfl) ?_
 refine rg_q (q_len isl125 rfl (by exact len_map _ _)) ?_
 refine rg_q (q_move (x := .d (.sl _ _)) rfl) ?_
 refine rg_q (q_len isl125 rfl (by exact len_map _ _)) ?_
 refine rg_q (q_neq rfl rfl) ?_
 refine xc (awp_len (t := 6) rfl (fun hl6 => ?_))
 (try simp only [List.length_map] at hl6)
 refine awp_len (t := 8) rfl (fun hl8 => ?_)
 (try simp only [List.length_map] at hl8)
 refine awp_cond rfl (fun hc1 => ?_) (fun hc1 => ?_)
 ·
  (try simp only [nb, ne_eq] at hc1)
  have hz : decide (l = m) = false := decide_eq_false (fun e => by rw [e] at hc1; omega)
  refine awp_seq ?_
  refine xa 1 ?_
  refine rg_q (q_a rfl) ?_
  refine xc (awp_ret ?_)
  refine ⟨_, xk1, ?_⟩
  rw [hz]; rfl
 ·
  (try simp only [nb, ne_eq] at hc1)
  have hlm : l.length = m.length := by omega
  refine awp_skip ?_
  change Awp _ _ _ _ _
  refine awp_seq ?_
  refine awp_seq ?_
  refine xa 1 ?_
  refine rg_q (q_a rfl) ?_
  refine xc (awp_block ?_)
  refine awp_loopH [4, 5, 11, 12, 13, 14, 15, 16, 17, 18, 19, 20, 21, 22, 23, 24, 25, 26, 27] [] (α := Nat) (fun k => [(5, T.i (k : Int))]) (fun k => []) (fun k => k ≤ l.length ∧ l.take k = m.take k) (fun k => l.length - k) 0 ⟨Nat.zero_le _, rfl⟩ ?_ ?_
  · exact xh (ms := []) (by repeat (exact Out.refl _)) ⟨(by rfl), trivial⟩ trivial
  ·
   intro k ⟨hk, hf⟩
   refine awp_seq ?_
   refine awp_seq ?_
   refine xa 4 ?_
   refine rg_q (q_m rfl) (rg_q (q_move (x := .d (.sl _ _)) rfl) ?_)
   refine rg_q (q_len isl125 rfl (by exact len_map _ _)) ?_
   refine rg_q (q_lss rfl rfl) ?_
   refine xc (awp_len (t := 12) rfl (fun hl12 => ?_))
   (try simp only [List.length_map] at hl12)
   refine awp_cond rfl (fun hc4 => ?_) (fun hc4 => ?_)
   ·
    (try simp only [nb, ne_eq] at hc4)
    have hlt : k < l.length := by omega
    obtain ⟨x, hx⟩ : ∃ x, l[k]? = some x := ⟨_, List.getElem?_eq_getElem hlt⟩
    obtain ⟨y, hy⟩ : ∃ y, m[k]? = some y := ⟨_, List.getElem?_eq_getElem (by omega)⟩
    refine awp_skip ?_
    change Awp _ _ _ _ _
    refine awp_seq ?_
    refine awp_block ?_
    refine awp_seq ?_
    refine xa 11 ?_
    refine rg_q (q_move (x := .d (.sl _ _)) rfl) (rg_q (q_m rfl) ?_)
    refine rg_q (q_indexAddr sl125 rfl rfl (by omega) (map_at (k := k) (by omega) hx)) ?_
    refine rg_q (q_load sz61 rfl rfl) ?_
    refine rg_q (q_ext1 (e := Extern.MathFloatBits.float32bits) Tryz.func91 (by kernel_rfl) (by kernel_rfl) (by kernel_rfl) (by kernel_rfl) rfl rfl (fun w => rfl) rfl) ?_
    refine rg_q (q_move (x := .d (.sl _ _)) rfl) (rg_q (q_m rfl) ?_)
    refine rg_q (q_indexAddr sl125 rfl rfl (by omega) (map_at (k := k) (by omega) hy)) ?_
    refine rg_q (q_load sz61 rfl rfl) ?_
    refine rg_q (q_ext1 (e := Extern.MathFloatBits.float32bits) Tryz.func91 (by kernel_rfl) (by kernel_rfl) (by kernel_rfl) (by kernel_rfl) rfl rfl (fun w => rfl) rfl) ?_
    refine rg_q (q_neq rfl rfl) ?_
    refine xc (awp_cond rfl (fun hc6 => ?_) (fun hc6 => ?_))
    ·
     (try simp only [nb, ne_eq] at hc6)
     have hz : decide (l = m) = false := decide_eq_false (fun e => by rw [e, hy] at hx; have := Option.some.inj hx; omega)
     refine awp_seq ?_
     refine xa 1 ?_
     refine rg_q (q_a rfl) ?_
     refine xc (awp_ret ?_)
     refine ⟨_, xk1, ?_⟩
     rw [hz]; rfl
    ·
     (try simp only [nb, ne_eq] at hc6)
     have hxy : x = y := by omega
     have hnx : l.take (k + 1) = m.take (k + 1) := by rw [List.take_succ_eq_append_getElem hlt, List.take_succ_eq_append_getElem (by omega), hf, (List.getElem?_eq_some_iff.1 hx).2, (List.getElem?_eq_some_iff.1 hy).2, hxy]
     refine awp_skip ?_
     change Awp _ _ _ _ _
     refine xa 3 ?_
     refine rg_q (q_m rfl) ?_
     refine rg_q (q_add rfl rfl xi) ?_
     refine rg_q (q_a rfl) ?_
     refine rn ?_
     refine ⟨k + 1, ⟨by omega, hnx⟩, by omega, ?_⟩
     exact xh (ms := []) (by repeat (first | exact Out.head rfl rfl | (refine Out.put ?_ rfl))) ⟨(by rfl), trivial⟩ trivial
   ·
    (try simp only [nb, ne_eq] at hc4)
    have hz : decide (l = m) = true := decide_eq_true (by rw [← List.take_of_length_le (l := l) (i := k) (by omega), hf, List.take_of_length_le (by omega)])
    refine awp_exit ?_
    change Awp _ _ _ _ _
    refine awp_seq ?_
    refine xa 1 ?_
    refine rg_q (q_a rfl) ?_
    refine xc (awp_ret ?_)
    refine ⟨_, xk1, ?_⟩
    rw [hz]; rfl
theorem sameTrace_p (l m : List Nat) (hl : l.length = 64) (hm : m.length = 64) : PC Tryz.prog 22 [.agg (l.map fd), .agg (m.map fd)] (.v (.bool (decide (l = m)))) := by
 refine pc_of_awpN Tryz.func22 rfl Tryz.ntmps22 (rs := [.tmp 4]) Tryz.results22 (by simp) fun w0 hmine hrnd hpn => ?_
 refine awp_seq ?_
 refine xa 3 ?_
 refine rg_q (q_box rfl (by exact .inr ⟨_, rfl⟩)) ?_
 refine rg_q (q_box rfl (by exact .inr ⟨_, rfl⟩)) ?_
 refine rg_q (q_a rfl) ?_
 refine rs (xa 4 ?_)
 refine rg_q (q_sliceP (es := l.map fC) ar63 rfl (by show (l.map fd).length = _; rw [List.length_map]; exact hl) (by decide) (by decide) (fd_row l)) ?_
 refine rg_q (q_sliceP (es := m.map fC) ar63 rfl (by show (m.map fd).length = _; rw [List.length_map]; exact hm) (by decide) (by decide) (fd_row m)) ?_
 refine rg_q (q_call en56 (.cons rfl (.cons rfl .nil)) rfl (sameFloats_p l m)) ?_
 refine rg_q (q_a rfl) ?_
 refine xc (awp_ret ?_)
 refine ⟨_, xk1, ?_⟩
 rfl
end Go.Proofs.YtkbdnkjjklbddaaGreatDoor.Am.M
-- mini
set_option maxRecDepth 100000
namespace Go.Proofs.YtkbdnkjjklbddaaGreatDoor.Am.M
open Go
theorem within4_p (n lo hi : Int) : PC Tryz.prog 33 [.v (.int .i64 (n)), .v (.int .i64 (lo)), .v (.int .i64 (hi))] (.v (.bool (inR lo n hi))) := by
 refine pc_of_awp Tryz.func33 rfl Tryz.ntmps33 (rs := [.tmp 6]) Tryz.results33 (by simp) fun w0 => ?_
 refine awp_seq ?_
 refine xa 1 ?_
 refine rg_q (q_a rfl) ?_
 refine rs (xa 9 ?_)
 refine rg_q (q_m rfl) (rg_q (q_m rfl) (rg_q (q_leq rfl rfl) (rg_q (q_m rfl) ?_)))
 refine rg_g rfl rfl (fun hG => (q_m rfl)) ?_
 refine rg_g rfl rfl (fun hG => (q_m rfl)) ?_
 refine rg_g rfl rfl (fun hG => (q_leq rfl rfl)) ?_
 refine rg_pick rfl rfl rfl rfl rfl rfl ?_
 refine rg_q (q_a rfl) ?_
 refine xc (awp_ret ?_)
 refine ⟨_, xk1, ?_⟩
 unfold inR; simp only [bif_and]; rfl
theorem size4_p (n : Int) (h1 : -9000000000000000000 ≤ n) (h2 : n ≤ 9000000000000000000) : PC Tryz.prog 92 [.v (.int .i64 (n))] (.v (.int .i64 (max n (-n)))) := by
 refine pc_of_awp Tryz.func92 rfl Tryz.ntmps92 (rs := [.tmp 2]) Tryz.results92 (by simp) fun w0 => ?_
 refine awp_seq ?_
 refine xa 1 ?_
 refine rg_q (q_a rfl) ?_
 refine rs (xa 5 ?_)
 refine rg_q (q_m rfl) (rg_q (q_m rfl) ?_)
 refine rg_q (q_neg rfl xi) ?_
 refine rg_q (q_max rfl rfl) ?_
 refine rg_q (q_a rfl) ?_
 refine xc (awp_ret ?_)
 refine ⟨_, xk1, ?_⟩
 rfl

def z64 : List D := List.replicate 64 fz
theorem pulse_all {p : List Int} {a : Int} (hp : p.any plsB = false) (ha : -1000 ≤ a ∧ a ≤ 1000) : ∀ n ∈ p, -100000 ≤ a * n ∧ a * n ≤ 100000 := by
  intro n hn
  have h1 : plsB n = false := by
    cases h : plsB n with
    | false => rfl
    | true => rw [List.any_eq_true.2 ⟨n, hn, h⟩] at hp; cases hp
  have h2 : inR (-100) n 100 = true := by unfold plsB at h1; cases h : inR (-100) n 100 with
    | true => rfl
    | false => rw [h] at h1; cases h1
  simp [inR] at h2
  have := mulb (a := a) (b := n) (A := 1000) (B := 100) (by omega) (by omega) (by omega) (by omega)
  omega
theorem plsE_ok {p : List Int} (h : plsE p = 0) : p.length ≠ 0 ∧ p.length ≤ 16 ∧ p.any plsB = false := by
  unfold plsE at h
  by_cases h1 : p.length = 0
  · rw [if_pos h1] at h; cases h
  · rw [if_neg h1] at h
    by_cases h2 : 16 < p.length
    · rw [if_pos h2] at h; cases h
    · rw [if_neg h2] at h
      refine ⟨h1, by omega, ?_⟩
      cases hb : p.any plsB with
      | false => rfl
      | true => rw [hb] at h; cases h
def zI : List Int := List.replicate 64 0
theorem risAmp_p (n : Int) : PC Tryz.prog 32 [.v (.int .i64 (n))] (.v (.bool (inR (-1000) n 1000))) := by
 refine pc_of_awp Tryz.func32 rfl Tryz.ntmps32 (rs := [.tmp 2]) Tryz.results32 (by simp) fun w0 => ?_
 refine awp_seq ?_
 refine xa 1 ?_
 refine rg_q (q_a rfl) ?_
 refine rs (xa 3 ?_)
 refine rg_q (q_m rfl) ?_
 refine rg_q (q_call en33 (.cons rfl (.cons rfl (.cons rfl .nil))) rfl (within4_p _ _ _)) ?_
 refine rg_q (q_a rfl) ?_
 refine xc (awp_ret ?_)
 refine ⟨_, xk1, ?_⟩
 rfl

theorem any_take {p : List Int} {k : Nat} {x : Int} (hx : p[k]? = some x) (h : (p.take k).any plsB = false) (hk : plsB x = false) : (p.take (k + 1)).any plsB = false := by
  obtain ⟨hlt, he⟩ := List.getElem?_eq_some_iff.1 hx
  rw [List.take_succ_eq_append_getElem hlt, he, List.any_append, h]; simp [hk]
theorem rpulseErr_p (l : List Int) : PC Tryz.prog 72 [.sl 1 (l.map iC)] (.v (.int .i64 (plsE l))) := by
 refine pc_of_awp Tryz.func72 rfl Tryz.ntmps72 (rs := [.tmp 2]) Tryz.results72 (by simp) fun w0 => ?_
 refine awp_seq ?_
 refine xa 1 ?_
 refine rg_q (q_a rfl) ?_
 refine rs (awp_seq ?_)
 refine xa 3 ?_
 refine rg_q (q_move (x := .d (.sl _ _)) rfl) ?_
 refine rg_q (q_len isl29 rfl (by exact len_map _ _)) ?_
 refine rg_q (q_eql rfl rfl) ?_
 refine xc (awp_len (t := 4) rfl (fun hl4 => ?_))
 (try simp only [List.length_map] at hl4)
 refine awp_cond rfl (fun hc1 => ?_) (fun hc1 => ?_)
 ·
  (try simp only [nb, ne_eq] at hc1)
  have hz : plsE l = 10 := by unfold plsE; rw [if_pos (by omega)]
  refine awp_seq ?_
  refine xa 1 ?_
  refine rg_q (q_a rfl) ?_
  refine xc (awp_ret ?_)
  refine ⟨_, xk1, ?_⟩
  rw [hz]; rfl
 ·
  (try simp only [nb, ne_eq] at hc1)
  refine awp_skip ?_
  change Awp _ _ _ _ _
  refine awp_seq ?_
  refine awp_seq ?_
  refine xa 3 ?_
  refine rg_q (q_move (x := .d (.sl _ _)) rfl) ?_
  refine rg_q (q_len isl29 rfl (by exact len_map _ _)) ?_
  refine rg_q (q_gtr rfl rfl) ?_
  refine xc (awp_len (t := 7) rfl (fun hl7 => ?_))
  (try simp only [List.length_map] at hl7)
  refine awp_cond rfl (fun hc3 => ?_) (fun hc3 => ?_)
  ·
   (try simp only [nb, ne_eq] at hc3)
   have hz : plsE l = 8 := by unfold plsE; rw [if_neg (by omega), if_pos (by omega)]
   refine awp_seq ?_
   refine xa 1 ?_
   refine rg_q (q_a rfl) ?_
   refine xc (awp_ret ?_)
   refine ⟨_, xk1, ?_⟩
   rw [hz]; rfl
  ·
   (try simp only [nb, ne_eq] at hc3)
   have hu : plsE l = whenI (l.any plsB) 2 := by unfold plsE; rw [if_neg (by omega), if_neg (by omega)]
   refine awp_skip ?_
   change Awp _ _ _ _ _
   refine awp_seq ?_
   refine awp_seq ?_
   refine xa 1 ?_
   refine rg_q (q_a rfl) ?_
   refine xc (awp_block ?_)
   refine awp_loopH [2, 3, 10, 11, 12, 13, 14, 15, 16, 17, 18, 19, 20, 21] [] (α := Nat) (fun k => [(3, T.i (k : Int))]) (fun k => []) (fun k => k ≤ l.length ∧ (l.take k).any plsB = false) (fun k => l.length - k) 0 ⟨Nat.zero_le _, rfl⟩ ?_ ?_
   · exact xh (ms := []) (by repeat (exact Out.refl _)) ⟨(by rfl), trivial⟩ trivial
   ·
    intro k ⟨hk, hall⟩
    refine awp_seq ?_
    refine awp_seq ?_
    refine xa 4 ?_
    refine rg_q (q_m rfl) (rg_q (q_move (x := .d (.sl _ _)) rfl) ?_)
    refine rg_q (q_len isl29 rfl (by exact len_map _ _)) ?_
    refine rg_q (q_lss rfl rfl) ?_
    refine xc (awp_len (t := 11) rfl (fun hl11 => ?_))
    (try simp only [List.length_map] at hl11)
    refine awp_cond rfl (fun hc6 => ?_) (fun hc6 => ?_)
    ·
     (try simp only [nb, ne_eq] at hc6)
     have hlt : k < l.length := by omega
     obtain ⟨x, hx⟩ : ∃ x, l[k]? = some x := ⟨_, List.getElem?_eq_getElem hlt⟩
     refine awp_skip ?_
     change Awp _ _ _ _ _
     refine awp_seq ?_
     refine awp_block ?_
     refine awp_seq ?_
     refine xa 6 ?_
     refine rg_q (q_move (x := .d (.sl _ _)) rfl) (rg_q (q_m rfl) ?_)
     refine rg_q (q_indexAddr sl29 rfl rfl (by omega) (map_at (by omega) hx)) ?_
     refine rg_q (q_load sz3 rfl rfl) ?_
     refine rg_q (q_call en33 (.cons rfl (.cons rfl (.cons rfl .nil))) rfl (within4_p _ _ _)) ?_
     refine rg_q (q_not rfl) ?_
     refine xc (awp_cond rfl (fun hc8 => ?_) (fun hc8 => ?_))
     ·
      (try simp only [nb, ne_eq] at hc8)
      have hz : plsE l = 2 := by
       have hb : plsB x = true := by unfold plsB; rw [hc8]; rfl
       rw [hu, List.any_eq_true.2 ⟨x, List.mem_of_getElem? hx, hb⟩]; rfl
      refine awp_seq ?_
      refine xa 1 ?_
      refine rg_q (q_a rfl) ?_
      refine xc (awp_ret ?_)
      refine ⟨_, xk1, ?_⟩
      rw [hz]; rfl
     ·
      (try simp only [nb, ne_eq] at hc8)
      have hnx := any_take hx hall (by unfold plsB; rw [hc8]; rfl)
      refine awp_skip ?_
      change Awp _ _ _ _ _
      refine xa 3 ?_
      refine rg_q (q_m rfl) ?_
      refine rg_q (q_add rfl rfl xi) ?_
      refine rg_q (q_a rfl) ?_
      refine rn ?_
      refine ⟨k + 1, ⟨by omega, hnx⟩, by omega, ?_⟩
      exact xh (ms := []) (by repeat (first | exact Out.head rfl rfl | (refine Out.put ?_ rfl))) ⟨(by rfl), trivial⟩ trivial
    ·
     (try simp only [nb, ne_eq] at hc6)
     have hz : plsE l = 0 := by rw [hu, ← List.take_of_length_le (l := l) (i := k) (by omega), hall]; rfl
     refine awp_exit ?_
     change Awp _ _ _ _ _
     refine awp_seq ?_
     refine xa 1 ?_
     refine rg_q (q_a rfl) ?_
     refine xc (awp_ret ?_)
     refine ⟨_, xk1, ?_⟩
     rw [hz]; rfl
end Go.Proofs.YtkbdnkjjklbddaaGreatDoor.Am.M
-- mini
set_option maxRecDepth 100000
namespace Go.Proofs.YtkbdnkjjklbddaaGreatDoor.Am.M
open Go

def ptnC (p : (Int × Int) × Int) : List D := [.v (.int .i64 p.1.1), .v (.int .i64 p.1.2), .v (.int .i64 p.2)]
def encN (p : (Int × Int) × Int) : List D := [.agg (ptnC p)]
def betw (n u v k : Int) : Int := rndI (u * (n - k) + v * k) n
def ptK (x : Flw) (k : Int) : (Int × Int) × Int := ((betw x.pc x.at_.1 x.to_.1 k, betw x.pc x.at_.2 x.to_.2 k), if k = 0 ∨ k = x.pc then x.tp else x.am)
def ptsTo (x : Flw) (k : Nat) : List ((Int × Int) × Int) := (List.range k).map fun i : Nat => ptK x (i : Int)
def ptsL (x : Flw) : List ((Int × Int) × Int) := if x.kd = 0 then [(x.at_, x.am)] else ptsTo x (x.pc + 1).toNat
theorem ptsTo_succ (x : Flw) (k : Nat) : ptsTo x (k + 1) = ptsTo x k ++ [ptK x (k : Int)] := by unfold ptsTo; rw [List.range_succ, List.map_append]; rfl
theorem ptsTo_pre {x : Flw} {j : Nat} : ∀ {k : Nat}, j ≤ k → ptsTo x j <+: ptsTo x k
  | 0, h => by have : j = 0 := by omega
               subst this; exact List.prefix_rfl
  | k + 1, h => by
    by_cases e : j = k + 1
    · subst e; exact List.prefix_rfl
    · rw [ptsTo_succ]; exact (ptsTo_pre (show j ≤ k by omega)).trans (List.prefix_append _ _)
structure FlwOk (x : Flw) : Prop where
  kd : 0 ≤ x.kd ∧ x.kd ≤ 1
  a1 : -100000 ≤ x.at_.1 ∧ x.at_.1 ≤ 100000
  a2 : -100000 ≤ x.at_.2 ∧ x.at_.2 ≤ 100000
  am : -1000 ≤ x.am ∧ x.am ≤ 1000
  pl : x.kd ≠ 0 → (-100000 ≤ x.to_.1 ∧ x.to_.1 ≤ 100000) ∧ (-100000 ≤ x.to_.2 ∧ x.to_.2 ≤ 100000) ∧ (1 ≤ x.pc ∧ x.pc ≤ 20) ∧ -1000 ≤ x.tp ∧ x.tp ≤ 1000
theorem between_p (u v k n : Int) (hu : -100000 ≤ u ∧ u ≤ 100000) (hv : -100000 ≤ v ∧ v ≤ 100000) (hk : 0 ≤ k ∧ k ≤ 20) (hn : 1 ≤ n ∧ n ≤ 20) : PC Tryz.prog 89 [.v (.int .i64 (u)), .v (.int .i64 (v)), .v (.int .i64 (k)), .pt [.v (.int .i64 (n))] 0] (.v (.int .i64 (betw n u v k))) := by
 obtain ⟨u1, u2⟩ := hu
 obtain ⟨v1, v2⟩ := hv
 have m1 := mulb (a := u) (b := n - k) (A := 100000) (B := 20) (by omega) (by omega) (by omega) (by omega)
 have m2 := mulb (a := v) (b := k) (A := 100000) (B := 20) (by omega) (by omega) (by omega) (by omega)
 refine pc_of_awp Tryz.func89 rfl Tryz.ntmps89 (rs := [.tmp 7]) Tryz.results89 (by simp) fun w0 => ?_
 refine awp_seq ?_
 refine xa 1 ?_
 refine rg_q (q_a rfl) ?_
 refine rs (xa 12 ?_)
 refine rg_q (q_m rfl) (rg_q (q_load sz3 rfl rfl) (rg_q (q_m rfl) ?_))
 refine rg_q (q_sub rfl rfl xi) ?_
 refine rg_q (q_mul rfl rfl xi) ?_
 refine rg_q (q_m rfl) (rg_q (q_m rfl) ?_)
 refine rg_q (q_mul rfl rfl xi) ?_
 refine rg_q (q_add rfl rfl xi) ?_
 refine rg_q (q_load sz3 rfl rfl) ?_
 refine rg_q (q_call en90 (.cons rfl (.cons rfl .nil)) rfl (rounded_p _ _ (by omega) (by omega) (by omega) (by omega))) ?_
 refine rg_q (q_a rfl) ?_
 refine xc (awp_ret ?_)
 refine ⟨_, xk1, ?_⟩
 rfl
theorem points_i (x : Flw) (hok : FlwOk x) : PI Tryz.prog 88 [] [.pt (flwC x) 0] (encN) (ptsL x) true := by
  obtain ⟨⟨kd1, kd2⟩, ha1, ha2, ham, hpl⟩ := hok
  refine pi_of_iwp Tryz.func88 rfl Tryz.ntmps88 rfl rfl fun J c l0 hJ hy hdat hfin => ?_
  refine iwp_seq ?_
  refine iwp_seq ?_
  apply iwp_reg hJ
  ·
    intro c1 hmine hrnd
    refine xa 3 ?_
    refine rg_q (q_fieldAddr fld39_0 rfl) (rg_q (q_load sz3 rfl rfl) (rg_q (q_eql rfl rfl) ?_))
    refine rn ?_
    exact ⟨rfl, rfl⟩
  change Iwp _ _ _ _ _ _ _
  refine iwp_cond rfl (fun hc0 => ?_) (fun hc0 => ?_)
  ·
    (try simp only [nb, ne_eq] at hc0)
    have hit : ptsL x = [(x.at_, x.am)] := by unfold ptsL; rw [if_pos hc0]
    refine iwp_seq ?_
    refine iwp_region ?_
    refine iops_of hJ rfl (fun c1 _ _ _ h => by exact aops_q rfl ((q_move (x := .d (.fn _ _)) rfl)) h) ?_
    refine iops_of hJ rfl (fun c1 _ _ _ h => by exact aops_q rfl ((q_fieldAddr fld39_1 rfl)) h) ?_
    refine iops_of hJ rfl (fun c1 _ _ _ h => by exact aops_q rfl ((q_loadA (ds := [_, _]) sz37 rfl rfl rfl)) h) ?_
    refine iops_of hJ rfl (fun c1 _ _ _ h => by exact aops_q rfl ((q_fieldAddr fld39_4 rfl)) h) ?_
    refine iops_of hJ rfl (fun c1 _ _ _ h => by exact aops_q rfl ((q_load sz3 rfl rfl)) h) ?_
    refine iops_of hJ rfl (fun c1 _ _ _ h => by exact aops_q rfl ((q_build (cs := [_, _, _]) pl72 zr72 rfl (.cons rfl (by exact .inr ⟨_, rfl⟩) (.cons rfl (by exact .inl rfl) .nil)) ⟨⟨rfl, by decide⟩, ⟨rfl, by decide⟩, trivial⟩ rfl)) h) ?_
    refine iops_yield (x := (x.at_, x.am)) hy hdat rfl (.cons rfl .nil) (by rw [hit]; exact List.prefix_rfl) rfl (fun yb => ?_)
    refine iops_nil ?_
    change Iwp _ _ _ _ _ _ _
    refine iwp_ret ?_
    exact ⟨.inl rfl, fun _ => by rw [hit]; rfl⟩
  ·
    (try simp only [nb, ne_eq] at hc0)
    obtain ⟨ht1, ht2, ⟨n1, n2⟩, htp⟩ := hpl hc0
    obtain ⟨N, hN⟩ : ∃ N : Nat, x.pc = (N : Int) := ⟨x.pc.toNat, by omega⟩
    have hit : ptsL x = ptsTo x (N + 1) := by unfold ptsL; rw [if_neg hc0, show (x.pc + 1).toNat = N + 1 by omega]
    refine iwp_skip ?_
    change Iwp _ _ _ _ _ _ _
    refine iwp_seq ?_
    apply iwp_reg hJ
    ·
      intro c1 hmine hrnd
      refine xa 2 ?_
      refine rg_q (q_fieldAddr fld39_3 rfl) (rg_q (q_load sz3 rfl rfl) ?_)
      refine rg_nil ?_
      refine aops_alloc zr3 rfl rfl rfl ?_
      refine aops_store sz3 rfl rfl (by exact .inl rfl) rfl rfl (by decide) rfl ?_
      refine aops_nil ?_
      exact ⟨rfl, rfl⟩
    change Iwp _ _ _ _ _ _ _
    refine iwp_seq ?_
    apply iwp_reg hJ
    ·
      intro c1 hmine hrnd
      refine Awp.le (le_freeze 3 3 0 (cs := [.v (.int .i64 (x.pc))]) rfl rfl rfl rfl hmine) ?_
      refine xa 2 ?_
      refine rg_q (q_makeFunc (.cons rfl .nil)) ?_
      refine rg_q (q_assign (x := .d (.fn _ _)) rfl) ?_
      refine rn ?_
      exact ⟨rfl, rfl⟩
    change Iwp _ _ _ _ _ _ _
    refine iwp_seq ?_
    apply iwp_reg hJ
    ·
      intro c1 hmine hrnd
      refine xa 3 ?_
      refine rg_q (q_load sz3 rfl rfl) ?_
      refine rg_q (q_add rfl rfl xi) ?_
      refine rg_q (q_m rfl) ?_
      refine rn ?_
      exact ⟨rfl, rfl⟩
    change Iwp _ _ _ _ _ _ _
    refine iwp_block ?_
    refine iwp_loopH [5, 6, 22, 23, 24, 25, 26, 27, 28, 29, 30, 31, 32, 33, 34, 35, 36, 37, 38, 39, 40, 41, 42, 43, 44, 45, 46, 47, 48, 49, 50, 51, 52, 53, 54, 55, 56, 57, 58, 59, 60, 61] [] (β := Nat) (fun k => [(22, T.i (k : Int))]) (fun k => []) (fun k => (true, ptsTo x k)) (fun k => k ≤ N + 1) (fun k => N + 1 - k) 0 (Nat.zero_le _) rfl (fun c1 => ?_) ?_
    · exact xh (ms := []) (by repeat (exact Out.refl _)) ⟨(by rfl), trivial⟩ trivial
    ·
      intro k hk
      refine iwp_seq ?_
      apply iwp_reg hJ
      ·
        intro c1 hmine hrnd
        refine xa 1 ?_
        refine rg_q (q_lss rfl rfl) ?_
        refine rn ?_
        exact ⟨rfl, rfl⟩
      change Iwp _ _ _ _ _ _ _
      refine iwp_seq ?_
      refine iwp_cond rfl (fun hc5 => ?_) (fun hc5 => ?_)
      ·
        (try simp only [nb, ne_eq] at hc5)
        have hlt : k < N + 1 := by omega
        have hpre : ptsTo x k ++ [ptK x (k : Int)] <+: ptsL x := by rw [hit, ← ptsTo_succ]; exact ptsTo_pre (by omega)
        refine iwp_skip ?_
        change Iwp _ _ _ _ _ _ _
        refine iwp_seq ?_
        refine iwp_block ?_
        refine iwp_seq ?_
        apply iwp_reg hJ
        ·
          intro c1 hmine hrnd
          refine xa 2 ?_
          refine rg_q (q_m rfl) (rg_q (q_a rfl) ?_)
          refine rn ?_
          exact ⟨rfl, rfl⟩
        change Iwp _ _ _ _ _ _ _
        refine iwp_seq ?_
        apply iwp_reg hJ
        ·
          intro c1 hmine hrnd
          refine awp_regionM 24 [none, none, none, none, none, none, none, none, none, none, none, none, none, none, none, none, none, none, none, none, none, none, some 6, some 6] mixed (by kernel_rfl) ?_
          refine rgm_q rfl (q_move (x := .d (.fn _ _)) rfl) ?_
          refine rgm_q rfl (q_fieldAddr fld39_1 rfl) ?_
          refine rgm_q rfl (q_fieldAddr fld37_0 rfl) ?_
          refine rgm_q rfl (q_load sz3 rfl rfl) ?_
          refine rgm_q rfl (q_fieldAddr fld39_2 rfl) ?_
          refine rgm_q rfl (q_fieldAddr fld37_0 rfl) ?_
          refine rgm_q rfl (q_load sz3 rfl rfl) ?_
          refine rgm_q rfl (q_m rfl) ?_
          refine rgm_q rfl (q_callC en89 rfl (.cons rfl (.cons rfl (.cons rfl .nil))) (between_p x.at_.1 x.to_.1 (k : Int) x.pc ha1 ht1 ⟨by omega, by omega⟩ ⟨n1, n2⟩)) ?_
          refine rgm_q rfl (q_move (x := .d (.fn _ _)) rfl) ?_
          refine rgm_q rfl (q_fieldAddr fld39_1 rfl) ?_
          refine rgm_q rfl (q_fieldAddr fld37_1 rfl) ?_
          refine rgm_q rfl (q_load sz3 rfl rfl) ?_
          refine rgm_q rfl (q_fieldAddr fld39_2 rfl) ?_
          refine rgm_q rfl (q_fieldAddr fld37_1 rfl) ?_
          refine rgm_q rfl (q_load sz3 rfl rfl) ?_
          refine rgm_q rfl (q_m rfl) ?_
          refine rgm_q rfl (q_callC en89 rfl (.cons rfl (.cons rfl (.cons rfl .nil))) (between_p x.at_.2 x.to_.2 (k : Int) x.pc ha2 ht2 ⟨by omega, by omega⟩ ⟨n1, n2⟩)) ?_
          refine rgm_q rfl (q_build (cs := [_, _]) pl37 zr37 rfl (.cons rfl (by exact .inl rfl) (.cons rfl (by exact .inl rfl) .nil)) ⟨⟨rfl, by decide⟩, ⟨rfl, by decide⟩, trivial⟩ rfl) ?_
          refine rgm_q rfl (q_fieldAddr fld39_4 rfl) ?_
          refine rgm_q rfl (q_load sz3 rfl rfl) ?_
          refine rgm_q rfl (q_build (cs := [_, _, _]) pl72 zr72 rfl (.cons rfl (by exact .inr ⟨_, rfl⟩) (.cons rfl (by exact .inl rfl) .nil)) ⟨⟨rfl, by decide⟩, ⟨rfl, by decide⟩, trivial⟩ rfl) ?_
          refine rgm_m (k := 6) rfl rfl (by rfl) (m_alloc zr72 rfl rfl) ?_
          refine rgm_m (k := 6) rfl rfl (by rfl) (m_store sz72 rfl rfl (by exact .inr ⟨_, rfl⟩) rfl rfl (by decide) rfl) ?_
          refine rgm_nil (aops_nil ?_)
          exact ⟨rfl, rfl⟩
        change Iwp _ _ _ _ _ _ _
        refine iwp_seq ?_
        refine iwp_seq ?_
        apply iwp_reg hJ
        ·
          intro c1 hmine hrnd
          refine xa 7 ?_
          refine rg_q (q_m rfl) (rg_q (q_eql rfl rfl) (rg_q (q_m rfl) ?_))
          refine rg_g rfl rfl (fun hG => (q_m rfl)) ?_
          refine rg_g rfl rfl (fun hG => (q_load sz3 rfl rfl)) ?_
          refine rg_g rfl rfl (fun hG => (q_eql rfl rfl)) ?_
          refine rg_pick rfl rfl rfl rfl rfl rfl ?_
          refine rn ?_
          exact ⟨rfl, rfl⟩
        change Iwp _ _ _ _ _ _ _
        refine iwp_cond rfl (fun hc8 => ?_) (fun hc8 => ?_)
        ·
          (try simp only [nb, ne_eq] at hc8)
          have hpk : ptK x (k : Int) = ((betw x.pc x.at_.1 x.to_.1 k, betw x.pc x.at_.2 x.to_.2 k), x.tp) := by unfold ptK; rw [if_pos (by omega)]
          apply iwp_reg hJ
          ·
            intro c1 hmine hrnd
            refine xa 3 ?_
            refine rg_q (q_fieldAddr fld39_5 rfl) (rg_q (q_load sz3 rfl rfl) (rg_q (q_fieldAddr_ref fld72_1 rfl) ?_))
            refine rg_nil ?_
            refine aops_store sz3 rfl rfl (by exact .inl rfl) rfl rfl (by exact Nat.le_of_ble_eq_true rfl) rfl ?_
            refine aops_nil ?_
            exact ⟨rfl, rfl⟩
          change Iwp _ _ _ _ _ _ _
          refine iwp_seq ?_
          refine iwp_region ?_
          refine iops_of hJ rfl (fun c1 _ _ _ h => by exact aops_q rfl ((q_move (x := .d (.fn _ _)) rfl)) h) ?_
          refine iops_of hJ rfl (fun c1 _ _ _ h => by exact aops_q rfl ((q_load_refA (ds := [_, _, _]) sz72 rfl rfl rfl rfl)) h) ?_
          refine iops_yield (x := ((betw x.pc x.at_.1 x.to_.1 (k : Int), betw x.pc x.at_.2 x.to_.2 (k : Int)), x.tp)) hy hdat rfl (.cons rfl .nil) (by rw [← hpk]; exact hpre) rfl (fun yb => ?_)
          refine iops_of hJ rfl (fun c1 _ _ _ h => by exact aops_q rfl ((q_not rfl)) h) ?_
          refine iops_nil ?_
          change Iwp _ _ _ _ _ _ _
          refine iwp_cond rfl (fun hc10 => ?_) (fun hc10 => ?_)
          ·
            (try simp only [nb, ne_eq] at hc10)
            have hyb : yb = false := by cases yb <;> first | rfl | (exfalso; simp_all; done)
            refine iwp_ret ?_
            exact ⟨.inl rfl, fun h => by rw [hyb] at h; cases h⟩
          ·
            (try simp only [nb, ne_eq] at hc10)
            have hyb : yb = true := by cases yb <;> first | rfl | (exfalso; simp_all; done)
            refine iwp_skip ?_
            change Iwp _ _ _ _ _ _ _
            apply iwp_reg hJ
            ·
              intro c1 hmine hrnd
              refine xa 2 ?_
              refine rg_q (q_add rfl rfl xi) ?_
              refine rg_q (q_m rfl) ?_
              refine rn ?_
              exact ⟨rfl, rfl⟩
            refine ⟨k + 1, by omega, by omega, by rw [hyb, ptsTo_succ, hpk], fun c1 => ?_⟩
            exact xh (ms := []) (by repeat (first | exact Out.head rfl rfl | (refine Out.put ?_ rfl) | (refine Out.site ?_ rfl))) ⟨(by rfl), trivial⟩ trivial
        ·
          (try simp only [nb, ne_eq] at hc8)
          have hpk : ptK x (k : Int) = ((betw x.pc x.at_.1 x.to_.1 k, betw x.pc x.at_.2 x.to_.2 k), x.am) := by unfold ptK; rw [if_neg (by omega)]
          refine iwp_skip ?_
          change Iwp _ _ _ _ _ _ _
          refine iwp_seq ?_
          refine iwp_region ?_
          refine iops_of hJ rfl (fun c1 _ _ _ h => by exact aops_q rfl ((q_move (x := .d (.fn _ _)) rfl)) h) ?_
          refine iops_of hJ rfl (fun c1 _ _ _ h => by exact aops_q rfl ((q_load_refA (ds := [_, _, _]) sz72 rfl rfl rfl rfl)) h) ?_
          refine iops_yield (x := ((betw x.pc x.at_.1 x.to_.1 (k : Int), betw x.pc x.at_.2 x.to_.2 (k : Int)), x.am)) hy hdat rfl (.cons rfl .nil) (by rw [← hpk]; exact hpre) rfl (fun yb => ?_)
          refine iops_of hJ rfl (fun c1 _ _ _ h => by exact aops_q rfl ((q_not rfl)) h) ?_
          refine iops_nil ?_
          change Iwp _ _ _ _ _ _ _
          refine iwp_cond rfl (fun hc10 => ?_) (fun hc10 => ?_)
          ·
            (try simp only [nb, ne_eq] at hc10)
            have hyb : yb = false := by cases yb <;> first | rfl | (exfalso; simp_all; done)
            refine iwp_ret ?_
            exact ⟨.inl rfl, fun h => by rw [hyb] at h; cases h⟩
          ·
            (try simp only [nb, ne_eq] at hc10)
            have hyb : yb = true := by cases yb <;> first | rfl | (exfalso; simp_all; done)
            refine iwp_skip ?_
            change Iwp _ _ _ _ _ _ _
            apply iwp_reg hJ
            ·
              intro c1 hmine hrnd
              refine xa 2 ?_
              refine rg_q (q_add rfl rfl xi) ?_
              refine rg_q (q_m rfl) ?_
              refine rn ?_
              exact ⟨rfl, rfl⟩
            refine ⟨k + 1, by omega, by omega, by rw [hyb, ptsTo_succ, hpk], fun c1 => ?_⟩
            exact xh (ms := []) (by repeat (first | exact Out.head rfl rfl | (refine Out.put ?_ rfl) | (refine Out.site ?_ rfl))) ⟨(by rfl), trivial⟩ trivial
      ·
        (try simp only [nb, ne_eq] at hc5)
        have hkn : k = N + 1 := by omega
        refine iwp_exit ?_
        exact ⟨.inr rfl, fun _ => by rw [hkn, hit]⟩
theorem points_p (x : Flw) : PC Tryz.prog 55 [.agg (flwC x)] (.fn (.func 88) [.pt (flwC x) 0]) := by
 refine pc_of_awp Tryz.func55 rfl Tryz.ntmps55 (rs := [.tmp 2]) Tryz.results55 (by simp) fun w0 => ?_
 refine awp_seq ?_
 refine xa 2 ?_
 refine rg_q (q_box rfl (by exact .inr ⟨_, rfl⟩)) ?_
 refine rg_q (q_assign (x := .d (.v .nilFunc)) rfl) ?_
 refine rs (xa 2 ?_)
 refine rg_q (q_makeFunc (.cons rfl .nil)) ?_
 refine rg_q (q_assign (x := .d (.fn _ _)) rfl) ?_
 refine xc (awp_ret ?_)
 refine ⟨_, xk1, ?_⟩
 rfl
end Go.Proofs.YtkbdnkjjklbddaaGreatDoor.Am.M
-- mini
set_option maxRecDepth 100000
namespace Go.Proofs.YtkbdnkjjklbddaaGreatDoor.Am.M
open Go

section
variable {P : Program} {w0 : Cx} {ops : List Oper} {rest : List Oper} {R : Exit → St → Prop} {st : St} {ty : TypeId} {pos : String} {after : Array Edge}
theorem aops_boxR {d k : Nat} {e : TypeId} {y : Operand} (hy : st.ev y = .rs k) (hd : Nat.blt d st.n = true) (hs : st.s d = .no) (h : Aops P w0 ops rest R ((st.site d (.tbox [.rs k])).put (some d) (.ref d 0))) :
    Aops P w0 ops (⟨some d, .box e y, ty, pos, after, none⟩ :: rest) R st := by
  refine aops_step (K := fun s => s = (st.site d (.tbox [.rs k])).put (some d) (.ref d 0)) rfl (fun a w ⟨blk, val, hh⟩ => ?_) (fun _ e => e ▸ h)
  have hr : RepT w (okOf w0 blk) blk val st.s (.rs k) (a.eval y) := hy ▸ hh.ev y
  have ho : (a.eval y).oneCell' = true := hr.one hh.site rfl
  have hc : (a.eval y).cells.toList = [a.eval y] := one_cells ho
  have hE : Ext w (w.alloc (.cells (a.eval y).cells e)) := (Ext.refl w).alloc _
  refine wp_value (v := .pointer (some ⟨w.heap.size, 0, none⟩)) (w' := w.alloc (.cells (a.eval y).cells e)) (by simp [execOp, Instr.box, newVar, newRow]) ⟨_, rfl, ?_⟩
  have hsz : (a.eval y).cells.size = 1 := by have := congrArg List.length hc; simpa using this
  have hH := hh.allocSite (k := d) (x := .tbox [.rs k]) (u := undef) (o := .cells (a.eval y).cells e) hs ⟨w.heap.size, e, (a.eval y).cells, rfl, new_block _ _, hsz, fun j x hx => by
      match j, hx with
      | 0, hx =>
        cases hx
        refine ⟨a.eval y, ?_, ho, (hr.ok' (ok' := fun b => okOf w0 blk b ∧ b ≠ w.heap.size) fun b hb h => ⟨h, by omega⟩).ext hE⟩
        have : (a.eval y).cells.toList[0]? = some (a.eval y) := by rw [hc]; rfl
        simpa using this⟩
    (fun cs hcs z hz j hj => by
      cases hcs
      rw [List.mem_singleton.1 hz] at hj
      rcases hj with hj | ⟨o, hj⟩ | ⟨_, _, _, hj⟩
      · cases hj
        obtain ⟨⟨e, sz, es, q⟩, _⟩ := hr
        rw [q]; simp
      · cases hj
      · cases hj)
  exact ⟨_, _, put_hold hH (by simpa [Nat.blt_eq, St.site] using hd) ⟨by simp [St.site], w.heap.size, by simp, rfl⟩⟩
theorem repLT_d {w : World} {ok : Nat → Prop} {blk blk' : Nat → Option Nat} {val val' : Nat → Value} {s s' : Nat → Site} : ∀ {ds : List D} {vs : List Value}, RepLT w ok blk val s (ds.map T.d) vs → RepLT w ok blk' val' s' (ds.map T.d) vs
  | [], [], _ => trivial
  | _ :: _, _ :: _, ⟨h1, h2⟩ => ⟨h1, repLT_d h2⟩
  | [], _ :: _, h => h.elim
  | _ :: _, [], h => h.elim
theorem pcs_nil {f : FuncId} {ds : List D} {e sz : Nat} {r : T} {ss' : List Site} (h : PCS P f (.rs 0 :: ds.map T.d) [.row e sz []] r ss') : PCS P f (.d (.v (.slice none 0 0)) :: ds.map T.d) [] r ss' := by
  intro w ok blk val vs hblk hinj hnone hsite hL
  cases vs with
  | nil => exact hL.elim
  | cons v vs =>
    obtain ⟨h1, h2⟩ := hL
    have hv : v = .slice none 0 0 := Rep.v_eq (show Rep w ok (.v (.slice none 0 0)) v from h1)
    have := h w ok blk (fun _ => .slice none 0 0) (v :: vs) hblk hinj (fun i _ => hnone i (Nat.zero_le _)) (fun i => by
      cases i with
      | zero => exact ⟨fun i x hx => by simp at hx, fun i x j d hx => by simp at hx, .inl ⟨hnone 0 (Nat.zero_le _), rfl, rfl⟩⟩
      | succ i => exact hnone (i + 1) (Nat.zero_le _)) ⟨⟨⟨e, sz, [], rfl⟩, hv⟩, repLT_d h2⟩
    refine this.mono ?_
    rintro ee w' ⟨v2, blk', val', q1, q2, q3⟩
    exact ⟨v2, blk', val', q1, fun i hi => (by cases hi), q3⟩
theorem aops_callK {dst : Option Tmp} {f : FuncId} {ys : List Operand} {at_ : Array TypeId} {ds : List D} {ss' : List Site} {r : T} (ks : List Nat)
    (he : enB P f = true) (hr : PCS P f (.d (.v (.slice none 0 0)) :: ds.map T.d) [] r ss') (ha : Args st.ev st.s ys ds) (hc : (nodupN ks && Nat.beq ks.length ss'.length && belowT ss'.length r && ss'.all (belowS ss'.length)) = true)
    (hnew : ∀ i, i < ss'.length → st.s (nth ks i) = .no) (hd : (match dst with | none => true | some d => Nat.blt d st.n) = true) (hf : ∀ x ∈ ss', FlatS x) (hfr : FlatT r)
    (h : Aops P w0 ops rest R ((afterS st ks [] ss').put dst (shiftT (nth ks) r))) : Aops P w0 ops (⟨dst, .call ⟨.value (.func f), (.const (.slice none 0 0) :: ys).toArray, at_⟩, ty, pos, after, none⟩ :: rest) R st := by
  refine aops_callW ks [] he hr ?_ rfl rfl (fun i hi => by simp at hi) (fun i _ hi => hnew i hi) hd (fun a w blk val hh => ⟨fun _ => True, fun _ _ => trivial, fun i b hi => by simp at hi, ⟨Rep.v _ rfl, repLT_of (args_repF (fun y => hh.ev y) hh.site ha)⟩, .inr ⟨hf, hfr⟩⟩) h
  simp only [Bool.and_eq_true] at hc
  obtain ⟨⟨⟨h1, h2⟩, h3⟩, h4⟩ := hc
  simp [callOk, h1, h2, h3, h4]
  refine ⟨rfl, fun x _ => rfl⟩
end

theorem ptnC_flat (x : (Int × Int) × Int) : ∀ d ∈ ptnC x, D.Flat d := by
  intro d hd
  simp only [ptnC, List.mem_cons, List.not_mem_nil, or_false] at hd
  rcases hd with rfl | rfl | rfl <;> exact .v _
theorem appendSeq_p (L l : List ((Int × Int) × Int)) (g : FuncId) (cap : List D) (hen : enB Tryz.prog g = true) (hit : PI Tryz.prog g [] cap encN l) (hl : L.length + l.length ≤ 100000) : PCS Tryz.prog 83 [.rs 0, .d (.fn (.func g) cap)] [.row 72 3 (L.map ptnC)] (.rs 0) [.row 72 3 ((L ++ l).map ptnC)] := by
 refine pcs_of_awpR Tryz.func83 rfl Tryz.ntmps83 (rs := [.tmp 4]) Tryz.results83 (by simp) (getS_rows rfl) fun w0 hrnd hpn => ?_
 refine awp_seq ?_
 refine xa 0 ?_
 refine rg_nil ?_
 refine aops_boxR rfl rfl rfl ?_
 refine aops_q rfl (q_assign (x := .d (.sl _ _)) rfl) ?_
 refine aops_nil (xq (awp_seq ?_))
 refine xa 1 ?_
 refine rg_q (q_move (x := .d (.fn _ _)) rfl) ?_
 refine xc (awp_block ?_)
 refine awp_rangeC (α := (Int × Int) × Int) (β := Nat) (n := 13) (enc := encN) (items := l) 1000 [(2, .ref 2 0), (6, .d (.fn (.func g) cap))] (fun x => [(2, .tbox [.rs 13]), (13, .row 72 3 ((L ++ l.take x).map ptnC))]) (fun k x => x = k ∧ k ≤ l.length) (fun e x => False) 0 hrnd ?_ (.inr ⟨rfl, rfl⟩) hen hit rfl (fun _ => rfl) rfl (fun _ => by repeat first | exact trivial | refine ⟨by exact D.Flat.aggF (by repeat first | exact trivial | refine ⟨.v _, ?_⟩), ?_⟩) (fun _ => rfl) ⟨rfl, Nat.zero_le _⟩ (fun h => by cases h) ?_ ?_ ?_
 · exact le_cst (fun k => k) _ _ rfl ⟨(by rfl), (by rfl), trivial⟩ ⟨(by rfl), (by (show Site.row _ _ _ = Site.row _ _ _; simp; done)), trivial⟩ rfl (fun k b h => by rw [hpn k] at h; cases h)
 ·
  intro w1 hw1 k x y hI hy
  obtain ⟨rfl, hk⟩ := hI
  have hxl : x < l.length := (List.getElem?_eq_some_iff.1 hy).1
  have hs1 : ((L ++ l.take x).map ptnC) ++ [ptnC y] = (L ++ l.take (x + 1)).map ptnC := by
   rw [List.take_succ_eq_append_getElem hxl, (List.getElem?_eq_some_iff.1 hy).2]; simp
  have htl : (l.take x).length ≤ l.length := by rw [List.length_take]; omega
  refine xa 0 ?_
  refine rg_nil ?_
  refine aops_alloc zr72 rfl rfl rfl ?_
  refine aops_store sz72 rfl rfl (by exact .inr ⟨_, rfl⟩) rfl rfl (by decide) rfl ?_
  refine aops_nil ?_
  refine ⟨rfl, fun w2 hw2 => ?_⟩
  refine awp_block ?_
  refine xa 3 ?_
  refine rg_q (q_load_tb (x := .rs _) sz66 rfl rfl rfl) ?_
  refine rg_q (q_load_refA (ds := [_, _, _]) sz72 rfl rfl rfl rfl) ?_
  refine rg_q (q_buildSlice sl66 zr72 rfl rfl (by decide) (.cons rfl (by exact .inr ⟨_, rfl⟩) .nil) ⟨rfl, rfl, trivial⟩ rfl (by decide) rfl) ?_
  refine rg_nil ?_
  refine aops_append sl66 zr72 by72 rfl (by decide) rfl rfl rfl rfl (by (try simp only [List.length_map, List.length_append, List.length_cons, List.length_nil]); omega) (by (try simp only [List.length_map, List.length_append, List.length_cons, List.length_nil]); omega) rfl rfl ?_
  refine aops_storeT (z := .rs _) sz66 rfl rfl rfl rfl (by decide) rfl ?_
  refine aops_nil ?_
  refine .inl ⟨rfl, x + 1, ⟨rfl, hxl⟩, ?_⟩
  exact le_round [] _ hw2 rfl ⟨(by rfl), (by (show Site.row _ _ _ = Site.row _ _ _; rw [← hs1]; rfl)), trivial⟩ rfl
 ·
  intro x hI
  obtain ⟨rfl, _⟩ := hI
  rw [List.take_length]
  change Awp _ _ _ _ _
  refine awp_seq ?_
  refine xa 2 ?_
  refine rg_q (q_load_tb (x := .rs _) sz66 rfl rfl rfl) ?_
  refine rg_q (q_assign (x := .rs _) rfl) ?_
  refine xc (awp_ret ?_)
  exact end_mk (.inl rfl) [13] (.tmp rfl) (by repeat (first | exact trivial | refine ⟨rfl, ?_⟩)) rfl
 ·
  exact fun e x h => h.elim
theorem collect_p (l : List ((Int × Int) × Int)) (g : FuncId) (cap : List D) (hen : enB Tryz.prog g = true) (hit : PI Tryz.prog g [] cap encN l) (hl : l.length ≤ 100000) : PC Tryz.prog 54 [.fn (.func g) cap] (.sl 3 (l.map ptnC)) := by
 refine pc_of_awp Tryz.func54 rfl Tryz.ntmps54 (rs := [.tmp 2]) Tryz.results54 (by simp) fun w0 => ?_
 refine awp_seq ?_
 refine xa 1 ?_
 refine rg_q (q_assign (x := .d (.sl _ _)) rfl) ?_
 refine rs (xa 1 ?_)
 refine rg_q (q_move (x := .d (.fn _ _)) rfl) ?_
 refine rg_nil ?_
 refine aops_callK [4] en83 (pcs_nil (e := 72) (sz := 3) (ds := [.fn (.func g) cap]) (appendSeq_p [] l g cap hen hit (by simpa using hl))) (.cons (by exact .d _) .nil) rfl (newS.none rfl rfl) rfl (fun s hs => by rcases List.mem_singleton.1 hs with rfl; exact flat_row ptnC 72 3 l ptnC_flat) trivial ?_
 refine aops_q rfl (q_assign (x := .rs _) rfl) ?_
 refine aops_nil ?_
 change Awp _ _ _ _ _
 refine awp_ret ?_
 refine ⟨_, (.cons (.tmp (by exact .rs rfl)) .nil), ?_⟩
 rfl

theorem flw_ok {x : Flw} (h : flwE x = 0) : FlwOk x := by
  unfold flwE at h
  by_cases h1 : ¬ (0 ≤ x.kd ∧ x.kd ≤ 1)
  · rw [if_pos h1] at h; cases h
  rw [if_neg h1] at h
  have hk := Decidable.not_not.1 h1
  by_cases h2 : flwE0 x ≠ 0
  · rw [if_pos h2] at h; exact absurd h h2
  rw [if_neg h2] at h
  have h3 := Decidable.not_not.1 h2
  unfold flwE0 at h3
  rw [first_zero] at h3
  simp only [List.mem_cons, List.not_mem_nil, or_false, forall_eq_or_imp, forall_eq] at h3
  obtain ⟨a1, a2⟩ := h3
  have a3 := (when_zero (show (2 : Int) ≠ 0 by decide)).1 a2
  rw [spot_ok] at a1
  simp [inR] at a1 a3
  refine ⟨hk, by omega, by omega, by omega, fun hk0 => ?_⟩
  rw [if_neg hk0] at h
  unfold planeE at h
  rw [first_zero] at h
  simp only [List.mem_cons, List.not_mem_nil, or_false, forall_eq_or_imp, forall_eq] at h
  obtain ⟨b1, b2, _⟩ := h
  have b3 := (when_zero (show (2 : Int) ≠ 0 by decide)).1 b2
  rw [spot_ok] at b1
  simp [inR] at b1 b3
  omega
theorem ptsL_len {x : Flw} (h : FlwOk x) : (ptsL x).length ≤ 21 := by
  unfold ptsL
  split
  · simp
  · rename_i hk
    have := (h.pl hk).2.2.1
    unfold ptsTo
    rw [List.length_map, List.length_range]; omega
def pofR (x : Flw) : List ((Int × Int) × Int) × Int := if flwE x ≠ 0 then ([], flwE x) else (ptsL x, 0)
theorem pointsOf_p (x : Flw) : PC Tryz.prog 21 [.agg (flwC x)] (.tup [.sl 3 ((pofR x).1.map ptnC), .v (.int .i64 ((pofR x).2))]) := by
 refine pc_of_awp Tryz.func21 rfl Tryz.ntmps21 (rs := [.tmp 2, .tmp 3]) Tryz.results21 (by simp) fun w0 => ?_
 refine awp_seq ?_
 refine xa 3 ?_
 refine rg_q (q_box rfl (by exact .inr ⟨_, rfl⟩)) ?_
 refine rg_q (q_assign_nil) ?_
 refine rg_q (q_a rfl) ?_
 refine rs (awp_seq ?_)
 refine xa 3 ?_
 refine rg_q (q_loadA (ds := [_, _, _, _, _, _, _, _]) sz39 rfl rfl rfl) ?_
 refine rg_q (q_call en29 (.cons rfl .nil) rfl (checkFlaw_p _)) ?_
 refine rg_q (q_a rfl) ?_
 refine rs (xa 2 ?_)
 refine rg_q (q_m rfl) (rg_q (q_neq rfl rfl) ?_)
 refine xc (awp_cond rfl (fun hc2 => ?_) (fun hc2 => ?_))
 ·
  (try simp only [nb, ne_eq] at hc2)
  have hz : pofR x = ([], flwE x) := by unfold pofR; rw [if_pos hc2]
  refine awp_seq ?_
  refine xa 3 ?_
  refine rg_q (q_m rfl) ?_
  refine rg_q (q_assign_nil) ?_
  refine rg_q (q_a rfl) ?_
  refine xc (awp_ret ?_)
  refine ⟨_, (.cons (.tmp (by exact .nil 3)) xk1), ?_⟩
  rw [hz]; rfl
 ·
  (try simp only [nb, ne_eq] at hc2)
  have h0 : flwE x = 0 := by omega
  have hok := flw_ok h0
  have hz : pofR x = (ptsL x, 0) := by unfold pofR; rw [if_neg (fun q => q h0)]
  refine awp_skip ?_
  change Awp _ _ _ _ _
  refine awp_seq ?_
  refine xa 5 ?_
  refine rg_q (q_loadA (ds := [_, _, _, _, _, _, _, _]) sz39 rfl rfl rfl) ?_
  refine rg_q (q_call en55 (.cons rfl .nil) rfl (points_p _)) ?_
  refine rg_q (q_call en54 (.cons rfl .nil) rfl (collect_p (ptsL x) 88 [.pt (flwC x) 0] en88 (points_i x hok) (by have := ptsL_len hok; omega))) ?_
  refine rg_q (q_assign (x := .d (.sl _ _)) rfl) (rg_q (q_a rfl) ?_)
  refine xc (awp_ret ?_)
  refine ⟨_, xk2, ?_⟩
  rw [hz]; rfl
end Go.Proofs.YtkbdnkjjklbddaaGreatDoor.Am.M
