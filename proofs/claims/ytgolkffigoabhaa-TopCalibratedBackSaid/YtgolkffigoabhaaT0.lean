/- Contracts over the abstract machine: package ray: lengths and times; arcs around the probe. Conditions: none. -/
import Derived.Test.YtgolkffigoabhaaL12
import Derived.WalkKit
set_option linter.unusedVariables false
set_option linter.unusedSimpArgs false
namespace Go.Proofs.Ytgolkffigoabhaa.Am.M
open Go
/-- The root of a number, rounded down, bit by bit. -/
def rb (n : Int) : Nat → Int → Int
  | 0, r => r
  | k + 1, r => rb n k (if (r + 2 ^ k) * (r + 2 ^ k) ≤ n then r + 2 ^ k else r)
def rootI (n : Int) : Int := rb n 31 0
theorem rb_spec {n : Int} : ∀ {k : Nat} {r : Int}, 0 ≤ r → r * r ≤ n → n < (r + 2 ^ k) * (r + 2 ^ k) → 0 ≤ rb n k r ∧ rb n k r * rb n k r ≤ n ∧ n < (rb n k r + 1) * (rb n k r + 1) ∧ rb n k r < r + 2 ^ k
  | 0, r, h0, h1, h2 => ⟨h0, h1, (show n < (r + 1) * (r + 1) by simpa using h2), (show r < r + 2 ^ 0 by omega)⟩
  | k + 1, r, h0, h1, h2 => by
    have hp : (0 : Int) < 2 ^ k := Int.pow_pos (by omega)
    have e : (2 : Int) ^ (k + 1) = 2 ^ k + 2 ^ k := by rw [Int.pow_succ]; omega
    unfold rb
    split
    · rename_i h
      obtain ⟨a, b, c, d⟩ := rb_spec (k := k) (r := r + 2 ^ k) (by omega) h (by rw [e] at h2; rw [Int.add_assoc]; exact h2)
      exact ⟨a, b, c, by omega⟩
    · rename_i h
      obtain ⟨a, b, c, d⟩ := rb_spec (k := k) (r := r) h0 h1 (by omega)
      exact ⟨a, b, c, by omega⟩
theorem root_spec {n : Int} (h0 : 0 ≤ n) (h1 : n < 4611686018427387904) : 0 ≤ rootI n ∧ rootI n * rootI n ≤ n ∧ n < (rootI n + 1) * (rootI n + 1) ∧ rootI n < 2147483648 := by
  have := rb_spec (n := n) (k := 31) (r := 0) (by omega) (by omega) (by simpa using h1)
  simpa [rootI] using this
theorem sq_lt {a b : Int} (h : 0 ≤ b) (hl : a * a < b * b) : a < b := by
  by_cases h1 : a < b
  · exact h1
  · have h2 := Int.mul_le_mul (show b ≤ a by omega) (show b ≤ a by omega) h (by omega)
    omega
theorem sq_le {a b : Int} (h : 0 ≤ a) (hl : a ≤ b) : a * a ≤ b * b := Int.mul_le_mul hl hl h (by omega)
theorem root_iff {n r : Int} (h0 : 0 ≤ n) (h1 : n < 4611686018427387904) (hr : 0 ≤ r) : n < r * r ↔ rootI n < r := by
  obtain ⟨a, b, c, d⟩ := root_spec h0 h1
  constructor
  · intro h; exact sq_lt hr (by omega)
  · intro h
    have := sq_le (show 0 ≤ rootI n + 1 by omega) (show rootI n + 1 ≤ r by omega)
    omega
/-- The search of the library: by halves. -/
def bsr (f : Int → Bool) : Nat → Int → Int → Int
  | 0, i, _ => i
  | k + 1, i, j => if i < j then (if f ((i + j) / 2) = true then bsr f k i ((i + j) / 2) else bsr f k ((i + j) / 2 + 1) j) else i
def srch (f : Int → Bool) (n : Int) : Int := bsr f 62 0 n
theorem bsr_step {f : Int → Bool} {k : Nat} {i j : Int} (h : i < j) : bsr f (k + 1) i j = if f ((i + j) / 2) = true then bsr f k i ((i + j) / 2) else bsr f k ((i + j) / 2 + 1) j := by rw [bsr, if_pos h]
theorem bsr_stop {f : Int → Bool} {k : Nat} {i j : Int} (h : ¬ i < j) : bsr f k i j = i := by
  cases k with
  | zero => rfl
  | succ k => rw [bsr, if_neg h]
/-- What is so from some place on is found there. -/
theorem bsr_eq {f : Int → Bool} {m : Int} : ∀ {k : Nat} {i j : Int}, i ≤ m → m ≤ j → j - i < 2 ^ k → (∀ h, i ≤ h → h < m → f h = false) → (∀ h, m ≤ h → h < j → f h = true) → bsr f k i j = m
  | 0, i, j, h1, h2, h3, _, _ => by simp at h3; unfold bsr; omega
  | k + 1, i, j, h1, h2, h3, h4, h5 => by
    have e : (2 : Int) ^ (k + 1) = 2 ^ k + 2 ^ k := by rw [Int.pow_succ]; omega
    unfold bsr
    by_cases hij : i < j
    · rw [if_pos hij]
      cases hf : f ((i + j) / 2) with
      | true =>
        rw [if_pos rfl]
        have hm : m ≤ (i + j) / 2 := by
          by_cases q : m ≤ (i + j) / 2
          · exact q
          · rw [h4 _ (by omega) (by omega)] at hf; cases hf
        exact bsr_eq h1 hm (by omega) h4 (fun h a b => h5 h a (by omega))
      | false =>
        rw [if_neg (by simp)]
        have hm : (i + j) / 2 < m := by
          by_cases q : (i + j) / 2 < m
          · exact q
          · rw [h5 _ (by omega) (by omega)] at hf; cases hf
        exact bsr_eq (by omega) h2 (by omega) (fun h a b => h4 h (by omega) b) h5
    · rw [if_neg hij]; omega
theorem srch_eq {f : Int → Bool} {m n : Int} (h1 : 0 ≤ m) (h2 : m ≤ n) (h3 : n < 4611686018427387904) (h4 : ∀ h, 0 ≤ h → h < m → f h = false) (h5 : ∀ h, m ≤ h → h < n → f h = true) : srch f n = m :=
  bsr_eq h1 h2 (by simpa using h3) h4 h5
theorem root_srch {n : Int} (h0 : 0 ≤ n) (h1 : n < 4611686018427387904) : srch (fun r => decide (n < r * r)) 2147483648 - 1 = rootI n := by
  obtain ⟨a, b, c, d⟩ := root_spec h0 h1
  have : srch (fun r => decide (n < r * r)) 2147483648 = rootI n + 1 := srch_eq (by omega) (by omega) (by omega)
    (fun h q1 q2 => decide_eq_false fun q => by have := (root_iff h0 h1 q1).1 q; omega) (fun h q1 q2 => decide_eq_true ((root_iff h0 h1 (by omega)).2 (by omega)))
  omega
/-- Lengths and times, as chapter 1 has them. -/
abbrev Rg := Int × Int
def lenI (x z : Int) : Rg := (rootI (1000000 * (x * x + z * z)), if rootI (1000000 * (x * x + z * z)) * rootI (1000000 * (x * x + z * z)) < 1000000 * (x * x + z * z) then rootI (1000000 * (x * x + z * z)) + 1 else rootI (1000000 * (x * x + z * z)))
def timI (r : Rg) (v : Int) : Rg := (r.1 * 10000 / v, ceilI (r.2 * 10000) v)
set_option maxRecDepth 100000 in
theorem rwithin_p (n lo hi : Int) : PC Try.prog 44 [.v (.int .i64 (n)), .v (.int .i64 (lo)), .v (.int .i64 (hi))] (.v (.bool (inR lo n hi))) := by
  refine pc_of_awp Try.func44 rfl Try.ntmps44 (rs := [.tmp 6]) Try.results44 (by simp) fun w0 => ?_
  refine awp_seq ?_
  refine awp_region 1 mixed (by kernel_rfl) ?_
  refine rg_q (q_assign (x := .d (.v _)) rfl) ?_
  refine rg_nil ?_
  refine aops_nil ?_
  change Awp _ _ _ _ _
  refine awp_seq ?_
  refine awp_region 9 mixed (by kernel_rfl) ?_
  refine rg_q (q_move (x := .d (.v _)) rfl) ?_
  refine rg_q (q_move (x := .d (.v _)) rfl) ?_
  refine rg_q (q_leq rfl rfl) ?_
  refine rg_q (q_move (x := .d (.v _)) rfl) ?_
  refine rg_g rfl rfl (fun hG => (q_move (x := .d (.v _)) rfl)) ?_
  refine rg_g rfl rfl (fun hG => (q_move (x := .d (.v _)) rfl)) ?_
  refine rg_g rfl rfl (fun hG => (q_leq rfl rfl)) ?_
  first | refine rg_pick rfl rfl rfl rfl rfl rfl ?_ | refine rg_q (q_pick rfl rfl rfl) ?_
  refine rg_q (q_assign (x := .d (.v _)) rfl) ?_
  refine rg_nil ?_
  refine aops_nil ?_
  change Awp _ _ _ _ _
  refine awp_ret ?_
  refine ⟨_, (.cons (.tmp (by first | exact .d _ | exact .rs rfl | exact .ref rfl | exact .tref rfl (.cons (.d _ rfl) (.cons (.rs rfl) .nil)))) .nil), ?_⟩
  simp only [bif_and]; rfl
set_option maxRecDepth 100000 in
theorem rsmall_p (n m : Int) (h1 : 0 ≤ m) (h2 : m ≤ 1000000000000) : PC Try.prog 43 [.v (.int .i64 (n)), .v (.int .i64 (m))] (.v (.bool (inR (-m) n m))) := by
  refine pc_of_awp Try.func43 rfl Try.ntmps43 (rs := [.tmp 4]) Try.results43 (by simp) fun w0 => ?_
  refine awp_seq ?_
  refine awp_region 1 mixed (by kernel_rfl) ?_
  refine rg_q (q_assign (x := .d (.v _)) rfl) ?_
  refine rg_nil ?_
  refine aops_nil ?_
  change Awp _ _ _ _ _
  refine awp_seq ?_
  refine awp_region 6 mixed (by kernel_rfl) ?_
  refine rg_q (q_move (x := .d (.v _)) rfl) ?_
  refine rg_q (q_move (x := .d (.v _)) rfl) ?_
  refine rg_q (q_neg rfl (In64.mk (by omega) (by omega))) ?_
  refine rg_q (q_move (x := .d (.v _)) rfl) ?_
  first | refine rg_q (q_call en44 (.cons rfl (.cons rfl (.cons rfl .nil))) rfl (rwithin_p _ _ _)) ?_ | refine rg_q (q_callF en44 (.cons (by first | exact .d _ | exact .rs rfl | exact .ref rfl | exact .nil _ | exact .tref rfl (by repeat (first | exact .nil | refine .cons (.d _ rfl) ?_ | refine .cons (.rs rfl) ?_))) (.cons (by first | exact .d _ | exact .rs rfl | exact .ref rfl | exact .nil _ | exact .tref rfl (by repeat (first | exact .nil | refine .cons (.d _ rfl) ?_ | refine .cons (.rs rfl) ?_))) (.cons (by first | exact .d _ | exact .rs rfl | exact .ref rfl | exact .nil _ | exact .tref rfl (by repeat (first | exact .nil | refine .cons (.d _ rfl) ?_ | refine .cons (.rs rfl) ?_))) .nil))) rfl (rwithin_p _ _ _) (by first | exact .v _ | exact D.Flat.tupF (by repeat first | exact trivial | refine ⟨.v _, ?_⟩) | exact D.Flat.aggF (by repeat first | exact trivial | refine ⟨.v _, ?_⟩))) ?_
  refine rg_q (q_assign (x := .d (.v _)) rfl) ?_
  refine rg_nil ?_
  refine aops_nil ?_
  change Awp _ _ _ _ _
  refine awp_ret ?_
  refine ⟨_, (.cons (.tmp (by first | exact .d _ | exact .rs rfl | exact .ref rfl | exact .tref rfl (.cons (.d _ rfl) (.cons (.rs rfl) .nil)))) .nil), ?_⟩
  rfl

def mustI (b : Bool) (e : Int) : Int := if b = true then 0 else e
set_option maxRecDepth 100000 in
theorem must_p (b : Bool) (e : Int) : PC Try.prog 42 [.v (.bool (b)), .v (.int .i64 (e))] (.v (.int .i64 (mustI b e))) := by
  refine pc_of_awp Try.func42 rfl Try.ntmps42 (rs := [.tmp 4]) Try.results42 (by simp) fun w0 => ?_
  refine awp_seq ?_
  refine awp_region 1 mixed (by kernel_rfl) ?_
  refine rg_q (q_assign (x := .d (.v _)) rfl) ?_
  refine rg_nil ?_
  refine aops_nil ?_
  change Awp _ _ _ _ _
  refine awp_seq ?_
  refine awp_seq ?_
  refine awp_region 1 mixed (by kernel_rfl) ?_
  refine rg_q (q_move (x := .d (.v _)) rfl) ?_
  refine rg_nil ?_
  refine aops_nil ?_
  change Awp _ _ _ _ _
  refine awp_cond rfl (fun hc1 => ?_) (fun hc1 => ?_)
  ·
    (try simp only [decide_eq_true_eq, decide_eq_false_iff_not, Bool.and_eq_true, Bool.or_eq_true, Bool.and_eq_false_iff, Bool.or_eq_false_iff, Bool.not_eq_true', Bool.not_eq_false', Bool.not_true, Bool.not_false, bif_and, bif_or, Bool.not_not, ne_eq, Decidable.not_not, not_true_eq_false, not_false_eq_true, Int.not_le, Int.not_lt] at hc1)
    have hz : mustI b e = 0 := by unfold mustI; rw [if_pos hc1]
    refine awp_seq ?_
    refine awp_region 1 mixed (by kernel_rfl) ?_
    refine rg_q (q_assign (x := .d (.v _)) rfl) ?_
    refine rg_nil ?_
    refine aops_nil ?_
    change Awp _ _ _ _ _
    refine awp_ret ?_
    refine ⟨_, (.cons (.tmp (by first | exact .d _ | exact .rs rfl | exact .ref rfl | exact .tref rfl (.cons (.d _ rfl) (.cons (.rs rfl) .nil)))) .nil), ?_⟩
    rw [hz]; rfl
  ·
    (try simp only [decide_eq_true_eq, decide_eq_false_iff_not, Bool.and_eq_true, Bool.or_eq_true, Bool.and_eq_false_iff, Bool.or_eq_false_iff, Bool.not_eq_true', Bool.not_eq_false', Bool.not_true, Bool.not_false, bif_and, bif_or, Bool.not_not, ne_eq, Decidable.not_not, not_true_eq_false, not_false_eq_true, Int.not_le, Int.not_lt] at hc1)
    have hz : mustI b e = e := by unfold mustI; rw [if_neg (by simpa using hc1)]
    refine awp_skip ?_
    change Awp _ _ _ _ _
    refine awp_seq ?_
    refine awp_region 2 mixed (by kernel_rfl) ?_
    refine rg_q (q_move (x := .d (.v _)) rfl) ?_
    refine rg_q (q_assign (x := .d (.v _)) rfl) ?_
    refine rg_nil ?_
    refine aops_nil ?_
    change Awp _ _ _ _ _
    refine awp_ret ?_
    refine ⟨_, (.cons (.tmp (by first | exact .d _ | exact .rs rfl | exact .ref rfl | exact .tref rfl (.cons (.d _ rfl) (.cons (.rs rfl) .nil)))) .nil), ?_⟩
    rw [hz]; rfl
set_option maxRecDepth 100000 in
theorem rfirst_p (l : List Int) : PC Try.prog 16 [.sl 1 (l.map iC)] (.v (.int .i64 (firstE l))) := by
  refine pc_of_awp Try.func16 rfl Try.ntmps16 (rs := [.tmp 2]) Try.results16 (by simp) fun w0 => ?_
  refine awp_seq ?_
  refine awp_region 1 mixed (by kernel_rfl) ?_
  refine rg_q (q_assign (x := .d (.v _)) rfl) ?_
  refine rg_nil ?_
  refine aops_nil ?_
  change Awp _ _ _ _ _
  refine awp_seq ?_
  refine awp_seq ?_
  refine awp_region 3 mixed (by kernel_rfl) ?_
  first | refine rg_q (q_move (x := .d (.sl _ _)) rfl) ?_ | refine rg_q (q_move (x := .rs _) rfl) ?_ | refine rg_q (q_move (x := .d (.v _)) rfl) ?_
  first | refine rg_q (q_len isl86 rfl (by first | exact len_map _ _ | rfl)) ?_ | refine rg_q (q_len_rs isl86 rfl rfl) ?_ | refine rg_q (q_len_nil isl86 rfl) ?_
  refine rg_q (q_move (x := .d (.v _)) rfl) ?_
  refine rg_nil ?_
  refine aops_nil ?_
  change Awp _ _ _ _ _
  first | refine awp_len (t := 5) rfl (fun hl5 => ?_) | skip
  (try simp only [List.length_map] at hl5)
  refine awp_block ?_
  refine awp_loopH [2, 4, 7, 8, 9, 10, 11, 12, 13, 14] [] (α := Nat) (fun k => [(7, T.i (k : Int))]) (fun k => []) (fun k => k ≤ l.length ∧ firstE l = firstE (l.drop k)) (fun k => l.length - k) 0 ⟨Nat.zero_le _, rfl⟩ ?_ ?_
  · exact le_head (ms := []) (by repeat (first | exact Out.refl _ | exact Out.head rfl rfl | (refine Out.put ?_ rfl) | (refine Out.site ?_ rfl) | (refine Out.putn ?_) | (refine Out.headIn ?_ rfl rfl rfl) | (refine Out.called ?_ rfl rfl))) ⟨(by first | rfl | (simp; done)), trivial⟩ trivial rfl rfl rfl rfl
  ·
    intro k ⟨hk, hf⟩
    refine awp_seq ?_
    refine awp_region 1 mixed (by kernel_rfl) ?_
    refine rg_q (q_lss rfl rfl) ?_
    refine rg_nil ?_
    refine aops_nil ?_
    change Awp _ _ _ _ _
    refine awp_seq ?_
    refine awp_cond rfl (fun hc2 => ?_) (fun hc2 => ?_)
    ·
      (try simp only [decide_eq_true_eq, decide_eq_false_iff_not, Bool.and_eq_true, Bool.or_eq_true, Bool.and_eq_false_iff, Bool.or_eq_false_iff, Bool.not_eq_true', Bool.not_eq_false', Bool.not_true, Bool.not_false, bif_and, bif_or, Bool.not_not, ne_eq, Decidable.not_not, not_true_eq_false, not_false_eq_true, Int.not_le, Int.not_lt] at hc2)
      have hlt : k < l.length := by omega
      have hx := List.getElem?_eq_getElem hlt
      have hd : firstE (l.drop k) = if l[k] = 0 then firstE (l.drop (k + 1)) else l[k] := by rw [List.drop_eq_getElem_cons hlt]; rfl
      generalize l[k] = x at *
      refine awp_skip ?_
      change Awp _ _ _ _ _
      refine awp_seq ?_
      refine awp_block ?_
      refine awp_seq ?_
      refine awp_region 3 mixed (by kernel_rfl) ?_
      first | refine rg_q (q_indexAddr sl86 rfl rfl (by omega) (map_at (by omega) hx)) ?_ | refine rg_q (q_indexAddr_rs sl86 rfl rfl rfl (by omega) (by omega)) ?_
      first | refine rg_q (q_load sz28 rfl rfl) ?_ | refine rg_q (q_load_ref sz28 rfl rfl rfl) ?_ | refine rg_q (q_load_tb (x := .d _) sz28 rfl rfl rfl) ?_ | refine rg_q (q_load_tb (x := .rs _) sz28 rfl rfl rfl) ?_
      refine rg_q (q_assign (x := .d (.v _)) rfl) ?_
      refine rg_nil ?_
      refine aops_nil ?_
      change Awp _ _ _ _ _
      refine awp_seq ?_
      refine awp_region 2 mixed (by kernel_rfl) ?_
      refine rg_q (q_move (x := .d (.v _)) rfl) ?_
      refine rg_q (q_neq rfl rfl) ?_
      refine rg_nil ?_
      refine aops_nil ?_
      change Awp _ _ _ _ _
      refine awp_cond rfl (fun hc4 => ?_) (fun hc4 => ?_)
      ·
        (try simp only [decide_eq_true_eq, decide_eq_false_iff_not, Bool.and_eq_true, Bool.or_eq_true, Bool.and_eq_false_iff, Bool.or_eq_false_iff, Bool.not_eq_true', Bool.not_eq_false', Bool.not_true, Bool.not_false, bif_and, bif_or, Bool.not_not, ne_eq, Decidable.not_not, not_true_eq_false, not_false_eq_true, Int.not_le, Int.not_lt] at hc4)
        refine awp_seq ?_
        refine awp_region 2 mixed (by kernel_rfl) ?_
        refine rg_q (q_move (x := .d (.v _)) rfl) ?_
        refine rg_q (q_assign (x := .d (.v _)) rfl) ?_
        refine rg_nil ?_
        refine aops_nil ?_
        change Awp _ _ _ _ _
        refine awp_ret ?_
        refine ⟨_, (.cons (.tmp (by first | exact .d _ | exact .rs rfl | exact .ref rfl | exact .tref rfl (.cons (.d _ rfl) (.cons (.rs rfl) .nil)))) .nil), ?_⟩
        rw [hf, hd, if_neg hc4]; rfl
      ·
        (try simp only [decide_eq_true_eq, decide_eq_false_iff_not, Bool.and_eq_true, Bool.or_eq_true, Bool.and_eq_false_iff, Bool.or_eq_false_iff, Bool.not_eq_true', Bool.not_eq_false', Bool.not_true, Bool.not_false, bif_and, bif_or, Bool.not_not, ne_eq, Decidable.not_not, not_true_eq_false, not_false_eq_true, Int.not_le, Int.not_lt] at hc4)
        refine awp_skip ?_
        change Awp _ _ _ _ _
        refine awp_region 2 mixed (by kernel_rfl) ?_
        refine rg_q (q_add rfl rfl (In64.mk (by omega) (by omega))) ?_
        refine rg_q (q_move (x := .d (.v _)) rfl) ?_
        refine rg_nil ?_
        refine aops_nil ?_
        refine ⟨k + 1, ⟨by omega, by rw [hf, hd, if_pos hc4]⟩, by omega, ?_⟩
        exact le_head (ms := []) (by repeat (first | exact Out.refl _ | exact Out.head rfl rfl | (refine Out.put ?_ rfl) | (refine Out.site ?_ rfl) | (refine Out.putn ?_) | (refine Out.headIn ?_ rfl rfl rfl) | (refine Out.called ?_ rfl rfl))) ⟨(by first | rfl | (simp; done)), trivial⟩ trivial rfl rfl rfl rfl
    ·
      (try simp only [decide_eq_true_eq, decide_eq_false_iff_not, Bool.and_eq_true, Bool.or_eq_true, Bool.and_eq_false_iff, Bool.or_eq_false_iff, Bool.not_eq_true', Bool.not_eq_false', Bool.not_true, Bool.not_false, bif_and, bif_or, Bool.not_not, ne_eq, Decidable.not_not, not_true_eq_false, not_false_eq_true, Int.not_le, Int.not_lt] at hc2)
      refine awp_exit ?_
      change Awp _ _ _ _ _
      refine awp_seq ?_
      refine awp_region 1 mixed (by kernel_rfl) ?_
      refine rg_q (q_assign (x := .d (.v _)) rfl) ?_
      refine rg_nil ?_
      refine aops_nil ?_
      change Awp _ _ _ _ _
      refine awp_ret ?_
      refine ⟨_, (.cons (.tmp (by first | exact .d _ | exact .rs rfl | exact .ref rfl | exact .tref rfl (.cons (.d _ rfl) (.cons (.rs rfl) .nil)))) .nil), ?_⟩
      rw [hf, List.drop_of_length_le (by omega)]; rfl
set_option maxRecDepth 100000 in
theorem down_p (n b : Int) (h : Sm n) (hb : 0 < b) : PC Try.prog 45 [.v (.int .i64 (n)), .v (.int .i64 (b))] (.v (.int .i64 (n / b))) := by
  have hq := tdiv_sm h hb
  obtain ⟨h1, h2⟩ := h
  obtain ⟨h3, h4⟩ := hq
  have hl := floor_law (n := n) hb
  refine pc_of_awp Try.func45 rfl Try.ntmps45 (rs := [.tmp 4]) Try.results45 (by simp) fun w0 => ?_
  refine awp_seq ?_
  refine awp_region 1 mixed (by kernel_rfl) ?_
  refine rg_q (q_assign (x := .d (.v _)) rfl) ?_
  refine rg_nil ?_
  refine aops_nil ?_
  change Awp _ _ _ _ _
  refine awp_seq ?_
  refine awp_region 4 mixed (by kernel_rfl) ?_
  refine rg_q (q_move (x := .d (.v _)) rfl) ?_
  refine rg_q (q_move (x := .d (.v _)) rfl) ?_
  refine rg_q (q_quo rfl rfl (by omega) (In64.mk (by omega) (by omega))) ?_
  refine rg_q (q_assign (x := .d (.v _)) rfl) ?_
  refine rg_nil ?_
  refine aops_nil ?_
  change Awp _ _ _ _ _
  refine awp_seq ?_
  refine awp_seq ?_
  refine awp_region 4 mixed (by kernel_rfl) ?_
  refine rg_q (q_move (x := .d (.v _)) rfl) ?_
  refine rg_q (q_move (x := .d (.v _)) rfl) ?_
  refine rg_q (q_rem rfl rfl (by omega)) ?_
  refine rg_q (q_lss rfl rfl) ?_
  refine rg_nil ?_
  refine aops_nil ?_
  change Awp _ _ _ _ _
  refine awp_cond rfl (fun hc2 => ?_) (fun hc2 => ?_)
  ·
    (try simp only [decide_eq_true_eq, decide_eq_false_iff_not, Bool.and_eq_true, Bool.or_eq_true, Bool.and_eq_false_iff, Bool.or_eq_false_iff, Bool.not_eq_true', Bool.not_eq_false', Bool.not_true, Bool.not_false, bif_and, bif_or, Bool.not_not, ne_eq, Decidable.not_not, not_true_eq_false, not_false_eq_true, Int.not_le, Int.not_lt] at hc2)
    rw [if_pos hc2] at hl
    refine awp_region 3 mixed (by kernel_rfl) ?_
    refine rg_q (q_move (x := .d (.v _)) rfl) ?_
    refine rg_q (q_sub rfl rfl (In64.mk (by omega) (by omega))) ?_
    refine rg_q (q_assign (x := .d (.v _)) rfl) ?_
    refine rg_nil ?_
    refine aops_nil ?_
    change Awp _ _ _ _ _
    refine awp_seq ?_
    refine awp_region 2 mixed (by kernel_rfl) ?_
    refine rg_q (q_move (x := .d (.v _)) rfl) ?_
    refine rg_q (q_assign (x := .d (.v _)) rfl) ?_
    refine rg_nil ?_
    refine aops_nil ?_
    change Awp _ _ _ _ _
    refine awp_ret ?_
    refine ⟨_, (.cons (.tmp (by first | exact .d _ | exact .rs rfl | exact .ref rfl | exact .tref rfl (.cons (.d _ rfl) (.cons (.rs rfl) .nil)))) .nil), ?_⟩
    rw [← hl]; rfl
  ·
    (try simp only [decide_eq_true_eq, decide_eq_false_iff_not, Bool.and_eq_true, Bool.or_eq_true, Bool.and_eq_false_iff, Bool.or_eq_false_iff, Bool.not_eq_true', Bool.not_eq_false', Bool.not_true, Bool.not_false, bif_and, bif_or, Bool.not_not, ne_eq, Decidable.not_not, not_true_eq_false, not_false_eq_true, Int.not_le, Int.not_lt] at hc2)
    rw [if_neg (by omega)] at hl
    refine awp_skip ?_
    change Awp _ _ _ _ _
    refine awp_seq ?_
    refine awp_region 2 mixed (by kernel_rfl) ?_
    refine rg_q (q_move (x := .d (.v _)) rfl) ?_
    refine rg_q (q_assign (x := .d (.v _)) rfl) ?_
    refine rg_nil ?_
    refine aops_nil ?_
    change Awp _ _ _ _ _
    refine awp_ret ?_
    refine ⟨_, (.cons (.tmp (by first | exact .d _ | exact .rs rfl | exact .ref rfl | exact .tref rfl (.cons (.d _ rfl) (.cons (.rs rfl) .nil)))) .nil), ?_⟩
    rw [← hl]; rfl
set_option maxRecDepth 100000 in
theorem up_p (n b : Int) (h : Sm n) (hb : 0 < b) : PC Try.prog 46 [.v (.int .i64 (n)), .v (.int .i64 (b))] (.v (.int .i64 (ceilI n b))) := by
  obtain ⟨h1, h2⟩ := h
  have hq := ediv_sm (a := -n) ⟨by omega, by omega⟩ hb
  obtain ⟨h3, h4⟩ := hq
  refine pc_of_awp Try.func46 rfl Try.ntmps46 (rs := [.tmp 4]) Try.results46 (by simp) fun w0 => ?_
  refine awp_seq ?_
  refine awp_region 1 mixed (by kernel_rfl) ?_
  refine rg_q (q_assign (x := .d (.v _)) rfl) ?_
  refine rg_nil ?_
  refine aops_nil ?_
  change Awp _ _ _ _ _
  refine awp_seq ?_
  refine awp_region 6 mixed (by kernel_rfl) ?_
  refine rg_q (q_move (x := .d (.v _)) rfl) ?_
  refine rg_q (q_neg rfl (In64.mk (by omega) (by omega))) ?_
  refine rg_q (q_move (x := .d (.v _)) rfl) ?_
  first | refine rg_q (q_call en45 (.cons rfl (.cons rfl .nil)) rfl (down_p _ _ ⟨by omega, by omega⟩ (by omega))) ?_ | refine rg_q (q_callF en45 (.cons (by first | exact .d _ | exact .rs rfl | exact .ref rfl | exact .nil _ | exact .tref rfl (by repeat (first | exact .nil | refine .cons (.d _ rfl) ?_ | refine .cons (.rs rfl) ?_))) (.cons (by first | exact .d _ | exact .rs rfl | exact .ref rfl | exact .nil _ | exact .tref rfl (by repeat (first | exact .nil | refine .cons (.d _ rfl) ?_ | refine .cons (.rs rfl) ?_))) .nil)) rfl (down_p _ _ ⟨by omega, by omega⟩ (by omega)) (by first | exact .v _ | exact D.Flat.tupF (by repeat first | exact trivial | refine ⟨.v _, ?_⟩) | exact D.Flat.aggF (by repeat first | exact trivial | refine ⟨.v _, ?_⟩))) ?_
  refine rg_q (q_neg rfl (In64.mk (by omega) (by omega))) ?_
  refine rg_q (q_assign (x := .d (.v _)) rfl) ?_
  refine rg_nil ?_
  refine aops_nil ?_
  change Awp _ _ _ _ _
  refine awp_ret ?_
  refine ⟨_, (.cons (.tmp (by first | exact .d _ | exact .rs rfl | exact .ref rfl | exact .tref rfl (.cons (.d _ rfl) (.cons (.rs rfl) .nil)))) .nil), ?_⟩
  rfl

theorem u64_in {n : Int} (h0 : 0 ≤ n) (h1 : n ≤ 9223372036854775807) : IntKind.u64.wrap n = n := by rw [IntKind.wrap_u64]; omega
theorem i64_at {n : Int} (h0 : 0 ≤ n) (h1 : n ≤ 9223372036854775807) : IntKind.i64.wrap n = n := IntWalk.i64_in _ ⟨by omega, by omega⟩
theorem half_law {n : Int} (h0 : 0 ≤ n) : (0 : Int) ≤ 1 ∧ n.fdiv (2 ^ (min (1 : Int).toNat IntKind.u64.bits)) = n / 2 := ⟨by omega, by rw [show min (1 : Int).toNat IntKind.u64.bits = 1 from by decide, Int.fdiv_eq_ediv_of_nonneg _ (by decide)]; rfl⟩
set_option maxRecDepth 100000 in
theorem search_p (f : Int → Bool) (g : FuncId) (cap : List D) (hen : enB Try.prog g = true) (n : Int) (hn : n ≤ 4611686018427387903) (hf : ∀ h, 0 ≤ h → h < n → PC Try.prog g (.v (.int .i64 h) :: cap) (.v (.bool (f h)))) : PC Try.prog 61 [.v (.int .i64 (n)), .fn (.func g) cap] (.v (.int .i64 (srch f n))) := by
  refine pc_of_awp Try.func61 rfl Try.ntmps61 (rs := [.tmp 4]) Try.results61 (by simp) fun w0 => ?_
  refine awp_seq ?_
  refine awp_region 1 mixed (by kernel_rfl) ?_
  refine rg_q (q_assign (x := .d (.v _)) rfl) ?_
  refine rg_nil ?_
  refine aops_nil ?_
  change Awp _ _ _ _ _
  refine awp_seq ?_
  refine awp_region 3 mixed (by kernel_rfl) ?_
  refine rg_q (q_move (x := .d (.v _)) rfl) ?_
  refine rg_q (q_assign (x := .d (.v _)) rfl) ?_
  refine rg_q (q_assign (x := .d (.v _)) rfl) ?_
  refine rg_nil ?_
  refine aops_nil ?_
  change Awp _ _ _ _ _
  refine awp_seq ?_
  refine awp_block ?_
  refine awp_loopH [5, 6, 7, 9, 10, 11, 12, 13, 14, 15, 16, 17, 18, 19, 20, 21, 22, 23, 24] [] (α := Nat × Int × Int) (fun x => [(5, T.i x.2.1), (6, T.i x.2.2)]) (fun x => []) (fun x => 0 ≤ x.2.1 ∧ x.2.2 ≤ n ∧ (x.2.2 - x.2.1 < 2 ^ x.1) ∧ srch f n = bsr f x.1 x.2.1 x.2.2) (fun x => x.1) (62, 0, n) ⟨by simp, by simp, by simp only; omega, rfl⟩ ?_ ?_
  · exact le_head (ms := []) (by repeat (first | exact Out.refl _ | exact Out.head rfl rfl | (refine Out.put ?_ rfl) | (refine Out.site ?_ rfl) | (refine Out.putn ?_) | (refine Out.headIn ?_ rfl rfl rfl) | (refine Out.called ?_ rfl rfl))) ⟨(by first | rfl | (simp; done)), (by first | rfl | (simp; done)), trivial⟩ trivial rfl rfl rfl rfl
  ·
    intro ⟨d, i, j⟩ ⟨hi, hj, hd, hh⟩
    simp only at hi hj hd hh
    refine awp_seq ?_
    refine awp_seq ?_
    refine awp_region 3 mixed (by kernel_rfl) ?_
    refine rg_q (q_move (x := .d (.v _)) rfl) ?_
    refine rg_q (q_move (x := .d (.v _)) rfl) ?_
    refine rg_q (q_lss rfl rfl) ?_
    refine rg_nil ?_
    refine aops_nil ?_
    change Awp _ _ _ _ _
    refine awp_cond rfl (fun hc2 => ?_) (fun hc2 => ?_)
    ·
      (try simp only [decide_eq_true_eq, decide_eq_false_iff_not, Bool.and_eq_true, Bool.or_eq_true, Bool.and_eq_false_iff, Bool.or_eq_false_iff, Bool.not_eq_true', Bool.not_eq_false', Bool.not_true, Bool.not_false, bif_and, bif_or, Bool.not_not, ne_eq, Decidable.not_not, not_true_eq_false, not_false_eq_true, Int.not_le, Int.not_lt] at hc2)
      obtain ⟨e, rfl⟩ : ∃ e, d = e + 1 := by cases d with
        | zero => simp at hd; omega
        | succ e => exact ⟨e, rfl⟩
      have he : (2 : Int) ^ (e + 1) = 2 ^ e + 2 ^ e := by rw [Int.pow_succ]; omega
      have hst := bsr_step (f := f) (k := e) hc2
      have hfx := hf ((i + j) / 2) (by omega) (by omega)
      refine awp_skip ?_
      change Awp _ _ _ _ _
      refine awp_block ?_
      refine awp_seq ?_
      refine awp_region 7 mixed (by kernel_rfl) ?_
      refine rg_q (q_move (x := .d (.v _)) rfl) ?_
      refine rg_q (q_move (x := .d (.v _)) rfl) ?_
      refine rg_q (q_add rfl rfl (In64.mk (by first | omega | (simp only; omega)) (by first | omega | (simp only; omega)))) ?_
      refine rg_q (q_convE int3 int114 rfl (u64_in (by first | omega | (simp only; omega)) (by first | omega | (simp only; omega)))) ?_
      refine rg_q (q_shrE rfl rfl (half_law (by first | omega | (simp only; omega)))) ?_
      refine rg_q (q_convE int114 int3 rfl (i64_at (by first | omega | (simp only; omega)) (by first | omega | (simp only; omega)))) ?_
      refine rg_q (q_assign (x := .d (.v _)) rfl) ?_
      refine rg_nil ?_
      refine aops_nil ?_
      change Awp _ _ _ _ _
      refine awp_seq ?_
      refine awp_region 4 mixed (by kernel_rfl) ?_
      refine rg_q (q_move (x := .d (.fn _ _)) rfl) ?_
      refine rg_q (q_move (x := .d (.v _)) rfl) ?_
      refine rg_q (q_callC hen rfl (.cons rfl .nil) (hfx)) ?_
      refine rg_q (q_not rfl) ?_
      refine rg_nil ?_
      refine aops_nil ?_
      change Awp _ _ _ _ _
      refine awp_cond rfl (fun hc4 => ?_) (fun hc4 => ?_)
      ·
        (try simp only [decide_eq_true_eq, decide_eq_false_iff_not, Bool.and_eq_true, Bool.or_eq_true, Bool.and_eq_false_iff, Bool.or_eq_false_iff, Bool.not_eq_true', Bool.not_eq_false', Bool.not_true, Bool.not_false, bif_and, bif_or, Bool.not_not, ne_eq, Decidable.not_not, not_true_eq_false, not_false_eq_true, Int.not_le, Int.not_lt] at hc4)
        have hq : f ((i + j) / 2) = false := by simpa using hc4
        refine awp_region 3 mixed (by kernel_rfl) ?_
        refine rg_q (q_move (x := .d (.v _)) rfl) ?_
        refine rg_q (q_add rfl rfl (In64.mk (by first | omega | (simp only; omega)) (by first | omega | (simp only; omega)))) ?_
        refine rg_q (q_assign (x := .d (.v _)) rfl) ?_
        refine rg_nil ?_
        refine aops_nil ?_
        refine ⟨(e, (i + j) / 2 + 1, j), ⟨by simp only; omega, by simp only; omega, by simp only; omega, by rw [hh, hst, if_neg (by rw [hq]; simp)]⟩, by simp only; omega, ?_⟩
        exact le_head (ms := []) (by repeat (first | exact Out.refl _ | exact Out.head rfl rfl | (refine Out.put ?_ rfl) | (refine Out.site ?_ rfl) | (refine Out.putn ?_) | (refine Out.headIn ?_ rfl rfl rfl) | (refine Out.called ?_ rfl rfl))) ⟨(by first | rfl | (simp; done)), (by first | rfl | (simp; done)), trivial⟩ trivial rfl rfl rfl rfl
      ·
        (try simp only [decide_eq_true_eq, decide_eq_false_iff_not, Bool.and_eq_true, Bool.or_eq_true, Bool.and_eq_false_iff, Bool.or_eq_false_iff, Bool.not_eq_true', Bool.not_eq_false', Bool.not_true, Bool.not_false, bif_and, bif_or, Bool.not_not, ne_eq, Decidable.not_not, not_true_eq_false, not_false_eq_true, Int.not_le, Int.not_lt] at hc4)
        have hq : f ((i + j) / 2) = true := by simpa using hc4
        refine awp_region 2 mixed (by kernel_rfl) ?_
        refine rg_q (q_move (x := .d (.v _)) rfl) ?_
        refine rg_q (q_assign (x := .d (.v _)) rfl) ?_
        refine rg_nil ?_
        refine aops_nil ?_
        refine ⟨(e, i, (i + j) / 2), ⟨by simp only; omega, by simp only; omega, by simp only; omega, by rw [hh, hst, if_pos hq]⟩, by simp only; omega, ?_⟩
        exact le_head (ms := []) (by repeat (first | exact Out.refl _ | exact Out.head rfl rfl | (refine Out.put ?_ rfl) | (refine Out.site ?_ rfl) | (refine Out.putn ?_) | (refine Out.headIn ?_ rfl rfl rfl) | (refine Out.called ?_ rfl rfl))) ⟨(by first | rfl | (simp; done)), (by first | rfl | (simp; done)), trivial⟩ trivial rfl rfl rfl rfl
    ·
      (try simp only [decide_eq_true_eq, decide_eq_false_iff_not, Bool.and_eq_true, Bool.or_eq_true, Bool.and_eq_false_iff, Bool.or_eq_false_iff, Bool.not_eq_true', Bool.not_eq_false', Bool.not_true, Bool.not_false, bif_and, bif_or, Bool.not_not, ne_eq, Decidable.not_not, not_true_eq_false, not_false_eq_true, Int.not_le, Int.not_lt] at hc2)
      have hz := bsr_stop (f := f) (k := d) (i := i) (j := j) (by omega)
      refine awp_exit ?_
      change Awp _ _ _ _ _
      refine awp_seq ?_
      refine awp_region 2 mixed (by kernel_rfl) ?_
      refine rg_q (q_move (x := .d (.v _)) rfl) ?_
      refine rg_q (q_assign (x := .d (.v _)) rfl) ?_
      refine rg_nil ?_
      refine aops_nil ?_
      change Awp _ _ _ _ _
      refine awp_ret ?_
      refine ⟨_, (.cons (.tmp (by first | exact .d _ | exact .rs rfl | exact .ref rfl | exact .tref rfl (.cons (.d _ rfl) (.cons (.rs rfl) .nil)))) .nil), ?_⟩
      rw [hh, hz]; rfl
set_option maxRecDepth 100000 in
theorem root1_p (r n : Int) (h0 : 0 ≤ r) (h1 : r < 2147483648) : PC Try.prog 62 [.v (.int .i64 (r)), .pt [.v (.int .i64 (n))] 0] (.v (.bool (decide (n < r * r)))) := by
  have m := mulb (a := r) (b := r) (A := 2147483648) (B := 2147483648) (by omega) (by omega) (by omega) (by omega)
  refine pc_of_awp Try.func62 rfl Try.ntmps62 (rs := [.tmp 3]) Try.results62 (by simp) fun w0 => ?_
  refine awp_seq ?_
  refine awp_region 1 mixed (by kernel_rfl) ?_
  refine rg_q (q_assign (x := .d (.v _)) rfl) ?_
  refine rg_nil ?_
  refine aops_nil ?_
  change Awp _ _ _ _ _
  refine awp_seq ?_
  refine awp_region 6 mixed (by kernel_rfl) ?_
  refine rg_q (q_move (x := .d (.v _)) rfl) ?_
  refine rg_q (q_move (x := .d (.v _)) rfl) ?_
  refine rg_q (q_mul rfl rfl (In64.mk (by omega) (by omega))) ?_
  first | refine rg_q (q_load sz3 rfl rfl) ?_ | refine rg_q (q_load_ref sz3 rfl rfl rfl) ?_ | refine rg_q (q_load_tb (x := .d _) sz3 rfl rfl rfl) ?_ | refine rg_q (q_load_tb (x := .rs _) sz3 rfl rfl rfl) ?_
  refine rg_q (q_gtr rfl rfl) ?_
  refine rg_q (q_assign (x := .d (.v _)) rfl) ?_
  refine rg_nil ?_
  refine aops_nil ?_
  change Awp _ _ _ _ _
  refine awp_ret ?_
  refine ⟨_, (.cons (.tmp (by first | exact .d _ | exact .rs rfl | exact .ref rfl | exact .tref rfl (.cons (.d _ rfl) (.cons (.rs rfl) .nil)))) .nil), ?_⟩
  rfl
set_option maxRecDepth 100000 in
theorem root_p (n : Int) (h0 : 0 ≤ n) (h1 : n < 4611686018427387904) : PC Try.prog 47 [.v (.int .i64 (n))] (.v (.int .i64 (rootI n))) := by
  have hs := root_srch h0 h1
  obtain ⟨r1, r2, r3, r4⟩ := root_spec h0 h1
  refine pc_of_awp Try.func47 rfl Try.ntmps47 (rs := [.tmp 2]) Try.results47 (by simp) fun w0 => ?_
  refine awp_seq ?_
  refine awp_region 2 mixed (by kernel_rfl) ?_
  refine rg_q (q_box rfl (by first | exact .inl rfl | exact .inr ⟨_, rfl⟩)) ?_
  refine rg_q (q_assign (x := .d (.v _)) rfl) ?_
  refine rg_nil ?_
  refine aops_nil ?_
  change Awp _ _ _ _ _
  refine awp_seq ?_
  refine awp_region 4 mixed (by kernel_rfl) ?_
  refine rg_q (q_makeFunc (.cons rfl .nil)) ?_
  first | refine rg_q (q_call en61 (.cons rfl (.cons rfl .nil)) rfl (search_p (fun r => decide (n < r * r)) 62 [.pt [.v (.int .i64 n)] 0] en62 2147483648 (by omega) (fun h a b => root1_p h n a b))) ?_ | refine rg_q (q_callF en61 (.cons (by first | exact .d _ | exact .rs rfl | exact .ref rfl | exact .nil _ | exact .tref rfl (by repeat (first | exact .nil | refine .cons (.d _ rfl) ?_ | refine .cons (.rs rfl) ?_))) (.cons (by first | exact .d _ | exact .rs rfl | exact .ref rfl | exact .nil _ | exact .tref rfl (by repeat (first | exact .nil | refine .cons (.d _ rfl) ?_ | refine .cons (.rs rfl) ?_))) .nil)) rfl (search_p (fun r => decide (n < r * r)) 62 [.pt [.v (.int .i64 n)] 0] en62 2147483648 (by omega) (fun h a b => root1_p h n a b)) (by first | exact .v _ | exact D.Flat.tupF (by repeat first | exact trivial | refine ⟨.v _, ?_⟩) | exact D.Flat.aggF (by repeat first | exact trivial | refine ⟨.v _, ?_⟩))) ?_
  refine rg_q (q_sub rfl rfl (In64.mk (by omega) (by omega))) ?_
  refine rg_q (q_assign (x := .d (.v _)) rfl) ?_
  refine rg_nil ?_
  refine aops_nil ?_
  change Awp _ _ _ _ _
  refine awp_ret ?_
  refine ⟨_, (.cons (.tmp (by first | exact .d _ | exact .rs rfl | exact .ref rfl | exact .tref rfl (.cons (.d _ rfl) (.cons (.rs rfl) .nil)))) .nil), ?_⟩
  rw [← hs]; rfl

theorem len_bounds {x z : Int} (h1 : -200000 ≤ x) (h2 : x ≤ 200000) (h3 : -200000 ≤ z) (h4 : z ≤ 200000) : 0 ≤ x * x ∧ x * x ≤ 40000000000 ∧ 0 ≤ z * z ∧ z * z ≤ 40000000000 := by
  have sq : ∀ t : Int, -200000 ≤ t → t ≤ 200000 → 0 ≤ t * t ∧ t * t ≤ 40000000000 := fun t a b => by
    have m := mulb (a := t) (b := t) (A := 200000) (B := 200000) (by omega) (by omega) (by omega) (by omega)
    refine ⟨?_, by omega⟩
    rcases Int.le_total 0 t with q | q
    · exact Int.mul_nonneg q q
    · have := Int.mul_nonneg (show 0 ≤ -t by omega) (show 0 ≤ -t by omega)
      rwa [Int.neg_mul_neg] at this
  exact ⟨(sq x h1 h2).1, (sq x h1 h2).2, (sq z h3 h4).1, (sq z h3 h4).2⟩
/-- A length is not negative, and at most so long. -/
structure LenIn (r : Rg) : Prop where
  a : 0 ≤ r.1
  b : r.1 ≤ 400000000
  c : 0 ≤ r.2
  d : r.2 ≤ 400000000
  e : r.1 ≤ r.2
theorem len_in {x z : Int} (h1 : -200000 ≤ x) (h2 : x ≤ 200000) (h3 : -200000 ≤ z) (h4 : z ≤ 200000) : LenIn (lenI x z) := by
  obtain ⟨b1, b2, b3, b4⟩ := len_bounds h1 h2 h3 h4
  obtain ⟨r1, r2, r3, r4⟩ := root_spec (n := 1000000 * (x * x + z * z)) (by omega) (by omega)
  have h5 : rootI (1000000 * (x * x + z * z)) < 300000000 := sq_lt (by omega) (by omega)
  unfold lenI
  refine ⟨r1, by simp only; omega, ?_, ?_, ?_⟩ <;> simp only <;> split <;> omega
set_option maxRecDepth 100000 in
theorem length_p (x z : Int) (h1 : -200000 ≤ x) (h2 : x ≤ 200000) (h3 : -200000 ≤ z) (h4 : z ≤ 200000) : PC Try.prog 20 [.v (.int .i64 (x)), .v (.int .i64 (z))] (.agg [.v (.int .i64 ((lenI x z).1)), .v (.int .i64 ((lenI x z).2))]) := by
  obtain ⟨b1, b2, b3, b4⟩ := len_bounds h1 h2 h3 h4
  obtain ⟨r1, r2, r3, r4⟩ := root_spec (n := 1000000 * (x * x + z * z)) (by omega) (by omega)
  have r5 := Int.mul_nonneg r1 r1
  refine pc_of_awp Try.func20 rfl Try.ntmps20 (rs := [.cell 4 27]) Try.results20 (by simp) fun w0 => ?_
  refine awp_seq ?_
  refine awp_region 0 mixed (by kernel_rfl) ?_
  refine rg_nil ?_
  refine aops_alloc zr27 rfl rfl rfl ?_
  refine aops_nil ?_
  change Awp _ _ _ _ _
  refine awp_seq ?_
  refine awp_region 9 mixed (by kernel_rfl) ?_
  refine rg_q (q_move (x := .d (.v _)) rfl) ?_
  refine rg_q (q_move (x := .d (.v _)) rfl) ?_
  refine rg_q (q_mul rfl rfl (In64.mk (by omega) (by omega))) ?_
  refine rg_q (q_move (x := .d (.v _)) rfl) ?_
  refine rg_q (q_move (x := .d (.v _)) rfl) ?_
  refine rg_q (q_mul rfl rfl (In64.mk (by omega) (by omega))) ?_
  refine rg_q (q_add rfl rfl (In64.mk (by omega) (by omega))) ?_
  refine rg_q (q_mul rfl rfl (In64.mk (by omega) (by omega))) ?_
  refine rg_q (q_assign (x := .d (.v _)) rfl) ?_
  refine rg_nil ?_
  refine aops_nil ?_
  change Awp _ _ _ _ _
  refine awp_seq ?_
  refine awp_region 3 mixed (by kernel_rfl) ?_
  refine rg_q (q_move (x := .d (.v _)) rfl) ?_
  first | refine rg_q (q_call en47 (.cons rfl .nil) rfl (root_p _ (by omega) (by omega))) ?_ | refine rg_q (q_callF en47 (.cons (by first | exact .d _ | exact .rs rfl | exact .ref rfl | exact .nil _ | exact .tref rfl (by repeat (first | exact .nil | refine .cons (.d _ rfl) ?_ | refine .cons (.rs rfl) ?_))) .nil) rfl (root_p _ (by omega) (by omega)) (by first | exact .v _ | exact D.Flat.tupF (by repeat first | exact trivial | refine ⟨.v _, ?_⟩) | exact D.Flat.aggF (by repeat first | exact trivial | refine ⟨.v _, ?_⟩))) ?_
  refine rg_q (q_build (cs := [_, _]) pl27 zr27 rfl (.cons rfl (by first | exact .inl rfl | exact .inr ⟨_, rfl⟩) .nil) ⟨⟨rfl, by decide⟩, trivial⟩ rfl) ?_
  refine rg_nil ?_
  refine aops_alloc zr27 rfl rfl rfl ?_
  first | refine aops_store sz27 rfl rfl (by first | exact .inl rfl | exact .inr ⟨_, rfl⟩) rfl rfl (by first | decide | simp; done | exact Nat.le_of_ble_eq_true rfl) rfl ?_ | refine aops_storeT (z := .rs _) sz27 rfl rfl rfl rfl (by first | decide | simp) rfl ?_ | refine aops_storeT (z := .d _) sz27 rfl rfl rfl rfl (by first | decide | simp) rfl ?_ | refine aops_storeTA sz27 rfl rfl (by first | exact .inl rfl | exact .inr ⟨_, rfl⟩) rfl rfl (by first | decide | simp) rfl ?_
  refine aops_nil ?_
  change Awp _ _ _ _ _
  refine awp_seq ?_
  refine awp_region 3 mixed (by kernel_rfl) ?_
  first | refine rg_q (q_fieldAddr fld27_0 rfl) ?_ | refine rg_q (q_fieldAddr_ref fld27_0 rfl) ?_
  first | refine rg_q (q_load sz3 rfl rfl) ?_ | refine rg_q (q_load_ref sz3 rfl rfl rfl) ?_ | refine rg_q (q_load_tb (x := .d _) sz3 rfl rfl rfl) ?_ | refine rg_q (q_load_tb (x := .rs _) sz3 rfl rfl rfl) ?_
  first | refine rg_q (q_fieldAddr fld27_1 rfl) ?_ | refine rg_q (q_fieldAddr_ref fld27_1 rfl) ?_
  refine rg_nil ?_
  first | refine aops_store sz3 rfl rfl (by first | exact .inl rfl | exact .inr ⟨_, rfl⟩) rfl rfl (by first | decide | simp; done | exact Nat.le_of_ble_eq_true rfl) rfl ?_ | refine aops_storeT (z := .rs _) sz3 rfl rfl rfl rfl (by first | decide | simp) rfl ?_ | refine aops_storeT (z := .d _) sz3 rfl rfl rfl rfl (by first | decide | simp) rfl ?_ | refine aops_storeTA sz3 rfl rfl (by first | exact .inl rfl | exact .inr ⟨_, rfl⟩) rfl rfl (by first | decide | simp) rfl ?_
  refine aops_nil ?_
  change Awp _ _ _ _ _
  refine awp_seq ?_
  refine awp_seq ?_
  refine awp_region 7 mixed (by kernel_rfl) ?_
  first | refine rg_q (q_fieldAddr fld27_0 rfl) ?_ | refine rg_q (q_fieldAddr_ref fld27_0 rfl) ?_
  first | refine rg_q (q_load sz3 rfl rfl) ?_ | refine rg_q (q_load_ref sz3 rfl rfl rfl) ?_ | refine rg_q (q_load_tb (x := .d _) sz3 rfl rfl rfl) ?_ | refine rg_q (q_load_tb (x := .rs _) sz3 rfl rfl rfl) ?_
  first | refine rg_q (q_fieldAddr fld27_0 rfl) ?_ | refine rg_q (q_fieldAddr_ref fld27_0 rfl) ?_
  first | refine rg_q (q_load sz3 rfl rfl) ?_ | refine rg_q (q_load_ref sz3 rfl rfl rfl) ?_ | refine rg_q (q_load_tb (x := .d _) sz3 rfl rfl rfl) ?_ | refine rg_q (q_load_tb (x := .rs _) sz3 rfl rfl rfl) ?_
  refine rg_q (q_mul rfl rfl (In64.mk (by omega) (by omega))) ?_
  refine rg_q (q_move (x := .d (.v _)) rfl) ?_
  refine rg_q (q_lss rfl rfl) ?_
  refine rg_nil ?_
  refine aops_nil ?_
  change Awp _ _ _ _ _
  refine awp_cond rfl (fun hc4 => ?_) (fun hc4 => ?_)
  ·
    (try simp only [decide_eq_true_eq, decide_eq_false_iff_not, Bool.and_eq_true, Bool.or_eq_true, Bool.and_eq_false_iff, Bool.or_eq_false_iff, Bool.not_eq_true', Bool.not_eq_false', Bool.not_true, Bool.not_false, bif_and, bif_or, Bool.not_not, ne_eq, Decidable.not_not, not_true_eq_false, not_false_eq_true, Int.not_le, Int.not_lt] at hc4)
    have hz : (lenI x z).2 = rootI (1000000 * (x * x + z * z)) + 1 := by unfold lenI; simp only; rw [if_pos hc4]
    refine awp_region 4 mixed (by kernel_rfl) ?_
    first | refine rg_q (q_fieldAddr fld27_1 rfl) ?_ | refine rg_q (q_fieldAddr_ref fld27_1 rfl) ?_
    first | refine rg_q (q_load sz3 rfl rfl) ?_ | refine rg_q (q_load_ref sz3 rfl rfl rfl) ?_ | refine rg_q (q_load_tb (x := .d _) sz3 rfl rfl rfl) ?_ | refine rg_q (q_load_tb (x := .rs _) sz3 rfl rfl rfl) ?_
    refine rg_q (q_add rfl rfl (In64.mk (by omega) (by omega))) ?_
    first | refine rg_q (q_fieldAddr fld27_1 rfl) ?_ | refine rg_q (q_fieldAddr_ref fld27_1 rfl) ?_
    refine rg_nil ?_
    first | refine aops_store sz3 rfl rfl (by first | exact .inl rfl | exact .inr ⟨_, rfl⟩) rfl rfl (by first | decide | simp; done | exact Nat.le_of_ble_eq_true rfl) rfl ?_ | refine aops_storeT (z := .rs _) sz3 rfl rfl rfl rfl (by first | decide | simp) rfl ?_ | refine aops_storeT (z := .d _) sz3 rfl rfl rfl rfl (by first | decide | simp) rfl ?_ | refine aops_storeTA sz3 rfl rfl (by first | exact .inl rfl | exact .inr ⟨_, rfl⟩) rfl rfl (by first | decide | simp) rfl ?_
    refine aops_nil ?_
    change Awp _ _ _ _ _
    refine awp_seq ?_
    refine awp_region 1 mixed (by kernel_rfl) ?_
    first | refine rg_q (q_loadA (ds := [_, _]) sz27 rfl rfl rfl) ?_ | refine rg_q (q_load_refA (ds := [_, _]) sz27 rfl rfl rfl rfl) ?_
    refine rg_nil ?_
    first | refine aops_store sz27 rfl rfl (by first | exact .inl rfl | exact .inr ⟨_, rfl⟩) rfl rfl (by first | decide | simp; done | exact Nat.le_of_ble_eq_true rfl) rfl ?_ | refine aops_storeT (z := .rs _) sz27 rfl rfl rfl rfl (by first | decide | simp) rfl ?_ | refine aops_storeT (z := .d _) sz27 rfl rfl rfl rfl (by first | decide | simp) rfl ?_ | refine aops_storeTA sz27 rfl rfl (by first | exact .inl rfl | exact .inr ⟨_, rfl⟩) rfl rfl (by first | decide | simp) rfl ?_
    refine aops_nil ?_
    change Awp _ _ _ _ _
    refine awp_ret ?_
    refine ⟨_, (.cons (.cellA rfl rfl sz27 rfl) .nil), ?_⟩
    rw [hz]; rfl
  ·
    (try simp only [decide_eq_true_eq, decide_eq_false_iff_not, Bool.and_eq_true, Bool.or_eq_true, Bool.and_eq_false_iff, Bool.or_eq_false_iff, Bool.not_eq_true', Bool.not_eq_false', Bool.not_true, Bool.not_false, bif_and, bif_or, Bool.not_not, ne_eq, Decidable.not_not, not_true_eq_false, not_false_eq_true, Int.not_le, Int.not_lt] at hc4)
    have hz : (lenI x z).2 = rootI (1000000 * (x * x + z * z)) := by unfold lenI; simp only; rw [if_neg (by omega)]
    refine awp_skip ?_
    change Awp _ _ _ _ _
    refine awp_seq ?_
    refine awp_region 1 mixed (by kernel_rfl) ?_
    first | refine rg_q (q_loadA (ds := [_, _]) sz27 rfl rfl rfl) ?_ | refine rg_q (q_load_refA (ds := [_, _]) sz27 rfl rfl rfl rfl) ?_
    refine rg_nil ?_
    first | refine aops_store sz27 rfl rfl (by first | exact .inl rfl | exact .inr ⟨_, rfl⟩) rfl rfl (by first | decide | simp; done | exact Nat.le_of_ble_eq_true rfl) rfl ?_ | refine aops_storeT (z := .rs _) sz27 rfl rfl rfl rfl (by first | decide | simp) rfl ?_ | refine aops_storeT (z := .d _) sz27 rfl rfl rfl rfl (by first | decide | simp) rfl ?_ | refine aops_storeTA sz27 rfl rfl (by first | exact .inl rfl | exact .inr ⟨_, rfl⟩) rfl rfl (by first | decide | simp) rfl ?_
    refine aops_nil ?_
    change Awp _ _ _ _ _
    refine awp_ret ?_
    refine ⟨_, (.cons (.cellA rfl rfl sz27 rfl) .nil), ?_⟩
    rw [hz]; rfl
set_option maxRecDepth 100000 in
theorem time_p (r : Rg) (v : Int) (hr : LenIn r) (h1 : 500 ≤ v) : PC Try.prog 19 [.agg [.v (.int .i64 ((r).1)), .v (.int .i64 ((r).2))], .v (.int .i64 (v))] (.agg [.v (.int .i64 ((timI r v).1)), .v (.int .i64 ((timI r v).2))]) := by
  obtain ⟨a1, a2, a3, a4, a5⟩ := hr
  refine pc_of_awp Try.func19 rfl Try.ntmps19 (rs := [.cell 4 27]) Try.results19 (by simp) fun w0 => ?_
  refine awp_seq ?_
  refine awp_region 1 mixed (by kernel_rfl) ?_
  refine rg_q (q_box rfl (by first | exact .inl rfl | exact .inr ⟨_, rfl⟩)) ?_
  refine rg_nil ?_
  refine aops_alloc zr27 rfl rfl rfl ?_
  refine aops_nil ?_
  change Awp _ _ _ _ _
  refine awp_seq ?_
  refine awp_region 11 mixed (by kernel_rfl) ?_
  first | refine rg_q (q_fieldAddr fld27_0 rfl) ?_ | refine rg_q (q_fieldAddr_ref fld27_0 rfl) ?_
  first | refine rg_q (q_load sz3 rfl rfl) ?_ | refine rg_q (q_load_ref sz3 rfl rfl rfl) ?_ | refine rg_q (q_load_tb (x := .d _) sz3 rfl rfl rfl) ?_ | refine rg_q (q_load_tb (x := .rs _) sz3 rfl rfl rfl) ?_
  refine rg_q (q_mul rfl rfl (In64.mk (by omega) (by omega))) ?_
  refine rg_q (q_move (x := .d (.v _)) rfl) ?_
  first | refine rg_q (q_call en45 (.cons rfl (.cons rfl .nil)) rfl (down_p _ _ ⟨by omega, by omega⟩ (by omega))) ?_ | refine rg_q (q_callF en45 (.cons (by first | exact .d _ | exact .rs rfl | exact .ref rfl | exact .nil _ | exact .tref rfl (by repeat (first | exact .nil | refine .cons (.d _ rfl) ?_ | refine .cons (.rs rfl) ?_))) (.cons (by first | exact .d _ | exact .rs rfl | exact .ref rfl | exact .nil _ | exact .tref rfl (by repeat (first | exact .nil | refine .cons (.d _ rfl) ?_ | refine .cons (.rs rfl) ?_))) .nil)) rfl (down_p _ _ ⟨by omega, by omega⟩ (by omega)) (by first | exact .v _ | exact D.Flat.tupF (by repeat first | exact trivial | refine ⟨.v _, ?_⟩) | exact D.Flat.aggF (by repeat first | exact trivial | refine ⟨.v _, ?_⟩))) ?_
  first | refine rg_q (q_fieldAddr fld27_1 rfl) ?_ | refine rg_q (q_fieldAddr_ref fld27_1 rfl) ?_
  first | refine rg_q (q_load sz3 rfl rfl) ?_ | refine rg_q (q_load_ref sz3 rfl rfl rfl) ?_ | refine rg_q (q_load_tb (x := .d _) sz3 rfl rfl rfl) ?_ | refine rg_q (q_load_tb (x := .rs _) sz3 rfl rfl rfl) ?_
  refine rg_q (q_mul rfl rfl (In64.mk (by omega) (by omega))) ?_
  refine rg_q (q_move (x := .d (.v _)) rfl) ?_
  first | refine rg_q (q_call en46 (.cons rfl (.cons rfl .nil)) rfl (up_p _ _ ⟨by omega, by omega⟩ (by omega))) ?_ | refine rg_q (q_callF en46 (.cons (by first | exact .d _ | exact .rs rfl | exact .ref rfl | exact .nil _ | exact .tref rfl (by repeat (first | exact .nil | refine .cons (.d _ rfl) ?_ | refine .cons (.rs rfl) ?_))) (.cons (by first | exact .d _ | exact .rs rfl | exact .ref rfl | exact .nil _ | exact .tref rfl (by repeat (first | exact .nil | refine .cons (.d _ rfl) ?_ | refine .cons (.rs rfl) ?_))) .nil)) rfl (up_p _ _ ⟨by omega, by omega⟩ (by omega)) (by first | exact .v _ | exact D.Flat.tupF (by repeat first | exact trivial | refine ⟨.v _, ?_⟩) | exact D.Flat.aggF (by repeat first | exact trivial | refine ⟨.v _, ?_⟩))) ?_
  refine rg_q (q_build (cs := [_, _]) pl27 zr27 rfl (.cons rfl (by first | exact .inl rfl | exact .inr ⟨_, rfl⟩) (.cons rfl (by first | exact .inl rfl | exact .inr ⟨_, rfl⟩) .nil)) ⟨⟨rfl, by decide⟩, ⟨rfl, by decide⟩, trivial⟩ rfl) ?_
  refine rg_nil ?_
  first | refine aops_store sz27 rfl rfl (by first | exact .inl rfl | exact .inr ⟨_, rfl⟩) rfl rfl (by first | decide | simp; done | exact Nat.le_of_ble_eq_true rfl) rfl ?_ | refine aops_storeT (z := .rs _) sz27 rfl rfl rfl rfl (by first | decide | simp) rfl ?_ | refine aops_storeT (z := .d _) sz27 rfl rfl rfl rfl (by first | decide | simp) rfl ?_ | refine aops_storeTA sz27 rfl rfl (by first | exact .inl rfl | exact .inr ⟨_, rfl⟩) rfl rfl (by first | decide | simp) rfl ?_
  refine aops_nil ?_
  change Awp _ _ _ _ _
  refine awp_ret ?_
  refine ⟨_, (.cons (.cellA rfl rfl sz27 rfl) .nil), ?_⟩
  rfl

def speedE (v : Int) : Int := mustI (inR 500 v 10000) 2
def spotB (p : Int × Int) : Bool := inR (-100000) p.1 100000 && inR (-100000) p.2 100000
def spotE (p : Int × Int) : Int := mustI (spotB p) 2
theorem must_zero {b : Bool} {e : Int} (he : e ≠ 0) : mustI b e = 0 ↔ b = true := by unfold mustI; split <;> simp_all
theorem spot_ok {p : Int × Int} : spotE p = 0 ↔ (-100000 ≤ p.1 ∧ p.1 ≤ 100000) ∧ -100000 ≤ p.2 ∧ p.2 ≤ 100000 := by
  unfold spotE spotB
  rw [must_zero (by omega)]
  simp [inR]
set_option maxRecDepth 100000 in
theorem speedErr_p (v : Int) : PC Try.prog 18 [.v (.int .i64 (v))] (.v (.int .i64 (speedE v))) := by
  refine pc_of_awp Try.func18 rfl Try.ntmps18 (rs := [.tmp 2]) Try.results18 (by simp) fun w0 => ?_
  refine awp_seq ?_
  refine awp_region 1 mixed (by kernel_rfl) ?_
  refine rg_q (q_assign (x := .d (.v _)) rfl) ?_
  refine rg_nil ?_
  refine aops_nil ?_
  change Awp _ _ _ _ _
  refine awp_seq ?_
  refine awp_region 4 mixed (by kernel_rfl) ?_
  refine rg_q (q_move (x := .d (.v _)) rfl) ?_
  first | refine rg_q (q_call en44 (.cons rfl (.cons rfl (.cons rfl .nil))) rfl (rwithin_p _ _ _)) ?_ | refine rg_q (q_callF en44 (.cons (by first | exact .d _ | exact .rs rfl | exact .ref rfl | exact .nil _ | exact .tref rfl (by repeat (first | exact .nil | refine .cons (.d _ rfl) ?_ | refine .cons (.rs rfl) ?_))) (.cons (by first | exact .d _ | exact .rs rfl | exact .ref rfl | exact .nil _ | exact .tref rfl (by repeat (first | exact .nil | refine .cons (.d _ rfl) ?_ | refine .cons (.rs rfl) ?_))) (.cons (by first | exact .d _ | exact .rs rfl | exact .ref rfl | exact .nil _ | exact .tref rfl (by repeat (first | exact .nil | refine .cons (.d _ rfl) ?_ | refine .cons (.rs rfl) ?_))) .nil))) rfl (rwithin_p _ _ _) (by first | exact .v _ | exact D.Flat.tupF (by repeat first | exact trivial | refine ⟨.v _, ?_⟩) | exact D.Flat.aggF (by repeat first | exact trivial | refine ⟨.v _, ?_⟩))) ?_
  first | refine rg_q (q_call en42 (.cons rfl (.cons rfl .nil)) rfl (must_p _ _)) ?_ | refine rg_q (q_callF en42 (.cons (by first | exact .d _ | exact .rs rfl | exact .ref rfl | exact .nil _ | exact .tref rfl (by repeat (first | exact .nil | refine .cons (.d _ rfl) ?_ | refine .cons (.rs rfl) ?_))) (.cons (by first | exact .d _ | exact .rs rfl | exact .ref rfl | exact .nil _ | exact .tref rfl (by repeat (first | exact .nil | refine .cons (.d _ rfl) ?_ | refine .cons (.rs rfl) ?_))) .nil)) rfl (must_p _ _) (by first | exact .v _ | exact D.Flat.tupF (by repeat first | exact trivial | refine ⟨.v _, ?_⟩) | exact D.Flat.aggF (by repeat first | exact trivial | refine ⟨.v _, ?_⟩))) ?_
  refine rg_q (q_assign (x := .d (.v _)) rfl) ?_
  refine rg_nil ?_
  refine aops_nil ?_
  change Awp _ _ _ _ _
  refine awp_ret ?_
  refine ⟨_, (.cons (.tmp (by first | exact .d _ | exact .rs rfl | exact .ref rfl | exact .tref rfl (.cons (.d _ rfl) (.cons (.rs rfl) .nil)))) .nil), ?_⟩
  rfl
set_option maxRecDepth 100000 in
theorem rspotErr_p (p : Int × Int) : PC Try.prog 17 [.agg (shC p)] (.v (.int .i64 (spotE p))) := by
  refine pc_of_awp Try.func17 rfl Try.ntmps17 (rs := [.tmp 2]) Try.results17 (by simp) fun w0 => ?_
  refine awp_seq ?_
  refine awp_region 2 mixed (by kernel_rfl) ?_
  refine rg_q (q_box rfl (by first | exact .inl rfl | exact .inr ⟨_, rfl⟩)) ?_
  refine rg_q (q_assign (x := .d (.v _)) rfl) ?_
  refine rg_nil ?_
  refine aops_nil ?_
  change Awp _ _ _ _ _
  refine awp_seq ?_
  refine awp_region 10 mixed (by kernel_rfl) ?_
  first | refine rg_q (q_fieldAddr fld32_0 rfl) ?_ | refine rg_q (q_fieldAddr_ref fld32_0 rfl) ?_
  first | refine rg_q (q_load sz3 rfl rfl) ?_ | refine rg_q (q_load_ref sz3 rfl rfl rfl) ?_ | refine rg_q (q_load_tb (x := .d _) sz3 rfl rfl rfl) ?_ | refine rg_q (q_load_tb (x := .rs _) sz3 rfl rfl rfl) ?_
  first | refine rg_q (q_call en43 (.cons rfl (.cons rfl .nil)) rfl (rsmall_p _ _ (by omega) (by omega))) ?_ | refine rg_q (q_callF en43 (.cons (by first | exact .d _ | exact .rs rfl | exact .ref rfl | exact .nil _ | exact .tref rfl (by repeat (first | exact .nil | refine .cons (.d _ rfl) ?_ | refine .cons (.rs rfl) ?_))) (.cons (by first | exact .d _ | exact .rs rfl | exact .ref rfl | exact .nil _ | exact .tref rfl (by repeat (first | exact .nil | refine .cons (.d _ rfl) ?_ | refine .cons (.rs rfl) ?_))) .nil)) rfl (rsmall_p _ _ (by omega) (by omega)) (by first | exact .v _ | exact D.Flat.tupF (by repeat first | exact trivial | refine ⟨.v _, ?_⟩) | exact D.Flat.aggF (by repeat first | exact trivial | refine ⟨.v _, ?_⟩))) ?_
  refine rg_q (q_move (x := .d (.v _)) rfl) ?_
  first | refine rg_g rfl rfl (fun hG => (q_fieldAddr fld32_1 rfl)) ?_ | refine rg_g rfl rfl (fun hG => (q_fieldAddr_ref fld32_1 rfl)) ?_
  first | refine rg_g rfl rfl (fun hG => (q_load sz3 rfl rfl)) ?_ | refine rg_g rfl rfl (fun hG => (q_load_ref sz3 rfl rfl rfl)) ?_ | refine rg_g rfl rfl (fun hG => (q_load_tb (x := .d _) sz3 rfl rfl rfl)) ?_ | refine rg_g rfl rfl (fun hG => (q_load_tb (x := .rs _) sz3 rfl rfl rfl)) ?_
  first | refine rg_g rfl rfl (fun hG => (q_call en43 (.cons rfl (.cons rfl .nil)) rfl (rsmall_p _ _ (by omega) (by omega)))) ?_ | refine rg_g rfl rfl (fun hG => (q_callF en43 (.cons (by first | exact .d _ | exact .rs rfl | exact .ref rfl | exact .nil _ | exact .tref rfl (by repeat (first | exact .nil | refine .cons (.d _ rfl) ?_ | refine .cons (.rs rfl) ?_))) (.cons (by first | exact .d _ | exact .rs rfl | exact .ref rfl | exact .nil _ | exact .tref rfl (by repeat (first | exact .nil | refine .cons (.d _ rfl) ?_ | refine .cons (.rs rfl) ?_))) .nil)) rfl (rsmall_p _ _ (by omega) (by omega)) (by first | exact .v _ | exact D.Flat.tupF (by repeat first | exact trivial | refine ⟨.v _, ?_⟩) | exact D.Flat.aggF (by repeat first | exact trivial | refine ⟨.v _, ?_⟩)))) ?_
  first | refine rg_pick rfl rfl rfl rfl rfl rfl ?_ | refine rg_q (q_pick rfl rfl rfl) ?_
  first | refine rg_q (q_call en42 (.cons rfl (.cons rfl .nil)) rfl (must_p _ _)) ?_ | refine rg_q (q_callF en42 (.cons (by first | exact .d _ | exact .rs rfl | exact .ref rfl | exact .nil _ | exact .tref rfl (by repeat (first | exact .nil | refine .cons (.d _ rfl) ?_ | refine .cons (.rs rfl) ?_))) (.cons (by first | exact .d _ | exact .rs rfl | exact .ref rfl | exact .nil _ | exact .tref rfl (by repeat (first | exact .nil | refine .cons (.d _ rfl) ?_ | refine .cons (.rs rfl) ?_))) .nil)) rfl (must_p _ _) (by first | exact .v _ | exact D.Flat.tupF (by repeat first | exact trivial | refine ⟨.v _, ?_⟩) | exact D.Flat.aggF (by repeat first | exact trivial | refine ⟨.v _, ?_⟩))) ?_
  refine rg_q (q_assign (x := .d (.v _)) rfl) ?_
  refine rg_nil ?_
  refine aops_nil ?_
  change Awp _ _ _ _ _
  refine awp_ret ?_
  refine ⟨_, (.cons (.tmp (by first | exact .d _ | exact .rs rfl | exact .ref rfl | exact .tref rfl (.cons (.d _ rfl) (.cons (.rs rfl) .nil)))) .nil), ?_⟩
  simp only [bif_and]; rfl

theorem root_sq {r : Int} (h0 : 0 ≤ r) (h1 : r ≤ 30000) : rootI (1000000 * ((0 - 0) * (0 - 0) + (0 - r) * (0 - r))) = 1000 * r := by
  have e : 1000000 * (((0 : Int) - 0) * (0 - 0) + (0 - r) * (0 - r)) = (1000 * r) * (1000 * r) := by grind
  rw [e]
  have m := mulb (a := 1000 * r) (b := 1000 * r) (A := 30000000) (B := 30000000) (by omega) (by omega) (by omega) (by omega)
  have m0 := Int.mul_nonneg (show 0 ≤ 1000 * r by omega) (show 0 ≤ 1000 * r by omega)
  obtain ⟨r1, r2, r3, r4⟩ := root_spec (n := (1000 * r) * (1000 * r)) m0 (by omega)
  have g1 : 1000 * r < rootI ((1000 * r) * (1000 * r)) + 1 := sq_lt (by omega) r3
  have g2 : rootI ((1000 * r) * (1000 * r)) < 1000 * r + 1 := sq_lt (by omega) (by
    have : (1000 * r + 1) * (1000 * r + 1) = (1000 * r) * (1000 * r) + 2000 * r + 1 := by grind
    omega)
  omega
theorem len_sq {r : Int} (h0 : 0 ≤ r) (h1 : r ≤ 30000) : lenI (0 - 0) (0 - r) = (1000 * r, 1000 * r) := by
  unfold lenI
  rw [root_sq h0 h1, if_neg (by
    have e : 1000000 * (((0 : Int) - 0) * (0 - 0) + (0 - r) * (0 - r)) = (1000 * r) * (1000 * r) := by grind
    omega)]
theorem tim_sq {r v : Int} (h0 : 0 ≤ r) (h1 : r ≤ 30000) : timI (lenI (0 - 0) (0 - r)) v = (10000000 * r / v, ceilI (10000000 * r) v) := by
  rw [len_sq h0 h1]
  unfold timI
  simp only [show 1000 * r * 10000 = 10000000 * r by omega]
theorem t_bounds {s r : Int} (s1 : 500 ≤ s) (r1 : 1 ≤ r) (r2 : r ≤ 30000) : 0 ≤ 10000000 * r / s ∧ 10000000 * r / s ≤ 4000000000 ∧ 10000000 * r / s ≤ ceilI (10000000 * r) s ∧ ceilI (10000000 * r) s ≤ 4000000000 ∧ 10000000 * r / s * s ≤ 10000000 * r ∧ 10000000 * r ≤ ceilI (10000000 * r) s * s := by
  have hs : 0 < s := by omega
  have e1 : 10000000 * r / s * s ≤ 10000000 * r := Int.ediv_mul_le _ (by omega)
  have e2 : (-(10000000 * r)) / s * s ≤ -(10000000 * r) := Int.ediv_mul_le _ (by omega)
  have e3 : 10000000 * r ≤ ceilI (10000000 * r) s * s := by unfold ceilI; grind
  have g1 : 0 ≤ 10000000 * r / s := Int.ediv_nonneg (by omega) (by omega)
  have g2 : 10000000 * r / s ≤ 4000000000 := by
    have := Int.ediv_le_ediv hs (show 10000000 * r ≤ 4000000000 * s by omega)
    rwa [Int.mul_ediv_cancel _ (by omega)] at this
  have g3 : ceilI (10000000 * r) s ≤ 4000000000 := by
    have := Int.ediv_le_ediv hs (show (-4000000000) * s ≤ -(10000000 * r) by omega)
    rw [Int.mul_ediv_cancel _ (by omega)] at this
    unfold ceilI; omega
  have g4 : 10000000 * r / s ≤ ceilI (10000000 * r) s := by
    have : 10000000 * r / s * s ≤ ceilI (10000000 * r) s * s := by omega
    exact Int.le_of_mul_le_mul_right this hs
  exact ⟨g1, g2, g4, g3, e1, e3⟩
/-- The echo of an arc around the probe. -/
def echA (d s r : Int) : Arc := ⟨r, d + 2 * (10000000 * r / s), d + 2 * ceilI (10000000 * r) s⟩
theorem echA_expl {d s r : Int} (s1 : 500 ≤ s) (r1 : 1 ≤ r) (r2 : r ≤ 30000) : Expl d s (echA d s r) := by
  obtain ⟨g1, g2, g3, g4, g5, g6⟩ := t_bounds s1 r1 r2
  unfold Expl echA
  simp only
  exact ⟨by grind, by grind⟩
theorem asc_snoc {l : List Int} {r : Int} (h : l.Pairwise (fun a b => a < b)) (hy : ∀ y, l.getLast? = some y → y < r) : (l ++ [r]).Pairwise (fun a b => a < b) := by
  rw [List.pairwise_append]
  refine ⟨h, List.pairwise_singleton _ _, fun a ha b hb => ?_⟩
  rw [List.mem_singleton.1 hb]
  rcases List.eq_nil_or_concat l with rfl | ⟨L, y, rfl⟩
  · cases ha
  · rw [List.concat_eq_append] at *
    have hy' := hy y (by simp)
    rcases List.mem_append.1 ha with h1 | h1
    · have := (List.pairwise_append.1 h).2.2 a h1 y (by simp)
      omega
    · rw [List.mem_singleton.1 h1]; exact hy'
def RsOk (l : List Int) : Prop := l.Pairwise (fun a b => a < b) ∧ ∀ x ∈ l, 1 ≤ x ∧ x ≤ 30000
theorem rs_step {l : List Int} {k : Nat} {r : Int} (hr : l[k]? = some r) (h : RsOk (l.take k)) (h1 : 1 ≤ r) (h2 : r ≤ 30000) (hp : ∀ y, 0 < k → l[k - 1]? = some y → y < r) : RsOk (l.take (k + 1)) := by
  obtain ⟨hlt, rfl⟩ := List.getElem?_eq_some_iff.1 hr
  rw [List.take_succ_eq_append_getElem hlt]
  refine ⟨asc_snoc h.1 fun y hy => ?_, fun x hx => ?_⟩
  · by_cases hk : k = 0
    · subst hk; simp at hy
    · refine hp y (by omega) ?_
      rw [List.getLast?_eq_getElem?, List.length_take, List.getElem?_take] at hy
      rw [Nat.min_eq_left (by omega)] at hy
      rwa [if_pos (by omega)] at hy
  · rcases List.mem_append.1 hx with hx | hx
    · exact h.2 x hx
    · rw [List.mem_singleton.1 hx]; exact ⟨h1, h2⟩
def eL (d s : Int) (rs : List Int) : List Arc := rs.map (echA d s)
theorem eL_snoc {d s : Int} {rs : List Int} {k : Nat} {r : Int} (hr : rs[k]? = some r) : eL d s (rs.take (k + 1)) = eL d s (rs.take k) ++ [echA d s r] := by
  obtain ⟨h1, rfl⟩ := List.getElem?_eq_some_iff.1 hr
  unfold eL
  rw [List.take_succ_eq_append_getElem h1, List.map_append]; rfl
theorem eL_ok {d s : Int} {rs : List Int} (d1 : 0 ≤ d) (d2 : d ≤ 1000000000) (s1 : 500 ≤ s) (h : RsOk rs) (n1 : 2 ≤ rs.length) (n2 : rs.length ≤ 6) : ArcsOk (eL d s rs) ∧ ∀ x ∈ eL d s rs, Expl d s x := by
  refine ⟨⟨?_, ?_, fun x hx => ?_, ?_⟩, fun x hx => ?_⟩
  · unfold eL; rw [List.length_map]; omega
  · unfold eL; rw [List.length_map]; omega
  · obtain ⟨r, hr, rfl⟩ := List.mem_map.1 hx
    obtain ⟨r1, r2⟩ := h.2 r hr
    obtain ⟨g1, g2, g3, g4, g5, g6⟩ := t_bounds s1 r1 r2
    unfold ArcOk echA
    simp only
    omega
  · unfold AscA eL
    rw [List.pairwise_map]
    exact h.1
  · obtain ⟨r, hr, rfl⟩ := List.mem_map.1 hx
    exact echA_expl s1 (h.2 r hr).1 (h.2 r hr).2
set_option maxRecDepth 100000 in
theorem timeOf_p (r v : Int) (h1 : 1 ≤ r) (h2 : r ≤ 30000) (h3 : 500 ≤ v) (h4 : v ≤ 10000) : PC Try.prog 6 [.agg [.v (.int .i64 (0)), .v (.int .i64 (0))], .agg [.v (.int .i64 (0)), .v (.int .i64 (r))], .v (.int .i64 (v))] (.tup [.agg [.v (.int .i64 (10000000 * r / v)), .v (.int .i64 (ceilI (10000000 * r) v))], .v (.int .i64 (0))]) := by
  have e1 : spotE (0, 0) = 0 := by decide
  have e2 : spotE (0, r) = 0 := spot_ok.2 (by simp only; omega)
  have e3 : speedE v = 0 := by unfold speedE inR; rw [must_zero (by omega)]; simp; omega
  have hz : firstE [spotE (0, 0), spotE (0, r), speedE v] = 0 := by rw [e1, e2, e3]; rfl
  have ht := tim_sq (r := r) (v := v) (by omega) h2
  have hlr : LenIn (lenI (0 - 0) (0 - r)) := len_in (by omega) (by omega) (by omega) (by omega)
  refine pc_of_awp Try.func6 rfl Try.ntmps6 (rs := [.cell 6 27, .tmp 7]) Try.results6 (by simp) fun w0 => ?_
  refine awp_seq ?_
  refine awp_region 2 mixed (by kernel_rfl) ?_
  refine rg_q (q_box rfl (by first | exact .inl rfl | exact .inr ⟨_, rfl⟩)) ?_
  refine rg_q (q_box rfl (by first | exact .inl rfl | exact .inr ⟨_, rfl⟩)) ?_
  refine rg_nil ?_
  refine aops_alloc zr27 rfl rfl rfl ?_
  refine aops_q rfl (q_assign (x := .d (.v _)) rfl) ?_
  refine aops_nil ?_
  change Awp _ _ _ _ _
  refine awp_seq ?_
  refine awp_seq ?_
  refine awp_region 9 mixed (by kernel_rfl) ?_
  first | refine rg_q (q_loadA (ds := [_, _]) sz32 rfl rfl rfl) ?_ | refine rg_q (q_load_refA (ds := [_, _]) sz32 rfl rfl rfl rfl) ?_
  first | refine rg_q (q_call en17 (.cons rfl .nil) rfl (rspotErr_p (0, 0))) ?_ | refine rg_q (q_callF en17 (.cons (by first | exact .d _ | exact .rs rfl | exact .ref rfl | exact .nil _ | exact .tref rfl (by repeat (first | exact .nil | refine .cons (.d _ rfl) ?_ | refine .cons (.rs rfl) ?_))) .nil) rfl (rspotErr_p (0, 0)) (by first | exact .v _ | exact D.Flat.tupF (by repeat first | exact trivial | refine ⟨.v _, ?_⟩) | exact D.Flat.aggF (by repeat first | exact trivial | refine ⟨.v _, ?_⟩))) ?_
  first | refine rg_q (q_loadA (ds := [_, _]) sz32 rfl rfl rfl) ?_ | refine rg_q (q_load_refA (ds := [_, _]) sz32 rfl rfl rfl rfl) ?_
  first | refine rg_q (q_call en17 (.cons rfl .nil) rfl (rspotErr_p (0, r))) ?_ | refine rg_q (q_callF en17 (.cons (by first | exact .d _ | exact .rs rfl | exact .ref rfl | exact .nil _ | exact .tref rfl (by repeat (first | exact .nil | refine .cons (.d _ rfl) ?_ | refine .cons (.rs rfl) ?_))) .nil) rfl (rspotErr_p (0, r)) (by first | exact .v _ | exact D.Flat.tupF (by repeat first | exact trivial | refine ⟨.v _, ?_⟩) | exact D.Flat.aggF (by repeat first | exact trivial | refine ⟨.v _, ?_⟩))) ?_
  refine rg_q (q_move (x := .d (.v _)) rfl) ?_
  first | refine rg_q (q_call en18 (.cons rfl .nil) rfl (speedErr_p _)) ?_ | refine rg_q (q_callF en18 (.cons (by first | exact .d _ | exact .rs rfl | exact .ref rfl | exact .nil _ | exact .tref rfl (by repeat (first | exact .nil | refine .cons (.d _ rfl) ?_ | refine .cons (.rs rfl) ?_))) .nil) rfl (speedErr_p _) (by first | exact .v _ | exact D.Flat.tupF (by repeat first | exact trivial | refine ⟨.v _, ?_⟩) | exact D.Flat.aggF (by repeat first | exact trivial | refine ⟨.v _, ?_⟩))) ?_
  refine rg_q (q_buildSlice sl86 zr28 rfl rfl (by decide) (.cons rfl (by first | exact .inl rfl | exact .inr ⟨_, rfl⟩) (.cons rfl (by first | exact .inl rfl | exact .inr ⟨_, rfl⟩) (.cons rfl (by first | exact .inl rfl | exact .inr ⟨_, rfl⟩) .nil))) ⟨rfl, rfl, rfl, rfl, rfl, rfl, trivial⟩ rfl (by decide) rfl) ?_
  first | refine rg_q (q_call en16 (.cons rfl .nil) rfl (rfirst_p [_, _, _])) ?_ | refine rg_q (q_callF en16 (.cons (by first | exact .d _ | exact .rs rfl | exact .ref rfl | exact .nil _ | exact .tref rfl (by repeat (first | exact .nil | refine .cons (.d _ rfl) ?_ | refine .cons (.rs rfl) ?_))) .nil) rfl (rfirst_p [_, _, _]) (by first | exact .v _ | exact D.Flat.tupF (by repeat first | exact trivial | refine ⟨.v _, ?_⟩) | exact D.Flat.aggF (by repeat first | exact trivial | refine ⟨.v _, ?_⟩))) ?_
  refine rg_q (q_assign (x := .d (.v _)) rfl) ?_
  refine rg_nil ?_
  refine aops_nil ?_
  change Awp _ _ _ _ _
  refine awp_seq ?_
  refine awp_region 2 mixed (by kernel_rfl) ?_
  refine rg_q (q_move (x := .d (.v _)) rfl) ?_
  refine rg_q (q_neq rfl rfl) ?_
  refine rg_nil ?_
  refine aops_nil ?_
  change Awp _ _ _ _ _
  refine awp_cond rfl (fun hc2 => ?_) (fun hc2 => ?_)
  ·
    exact absurd hz (of_decide_eq_true hc2)
  ·
    (try simp only [decide_eq_true_eq, decide_eq_false_iff_not, Bool.and_eq_true, Bool.or_eq_true, Bool.and_eq_false_iff, Bool.or_eq_false_iff, Bool.not_eq_true', Bool.not_eq_false', Bool.not_true, Bool.not_false, bif_and, bif_or, Bool.not_not, ne_eq, Decidable.not_not, not_true_eq_false, not_false_eq_true, Int.not_le, Int.not_lt] at hc2)
    refine awp_skip ?_
    change Awp _ _ _ _ _
    refine awp_seq ?_
    refine awp_region 13 mixed (by kernel_rfl) ?_
    first | refine rg_q (q_fieldAddr fld32_0 rfl) ?_ | refine rg_q (q_fieldAddr_ref fld32_0 rfl) ?_
    first | refine rg_q (q_load sz3 rfl rfl) ?_ | refine rg_q (q_load_ref sz3 rfl rfl rfl) ?_ | refine rg_q (q_load_tb (x := .d _) sz3 rfl rfl rfl) ?_ | refine rg_q (q_load_tb (x := .rs _) sz3 rfl rfl rfl) ?_
    first | refine rg_q (q_fieldAddr fld32_0 rfl) ?_ | refine rg_q (q_fieldAddr_ref fld32_0 rfl) ?_
    first | refine rg_q (q_load sz3 rfl rfl) ?_ | refine rg_q (q_load_ref sz3 rfl rfl rfl) ?_ | refine rg_q (q_load_tb (x := .d _) sz3 rfl rfl rfl) ?_ | refine rg_q (q_load_tb (x := .rs _) sz3 rfl rfl rfl) ?_
    refine rg_q (q_sub rfl rfl (In64.mk (by omega) (by omega))) ?_
    first | refine rg_q (q_fieldAddr fld32_1 rfl) ?_ | refine rg_q (q_fieldAddr_ref fld32_1 rfl) ?_
    first | refine rg_q (q_load sz3 rfl rfl) ?_ | refine rg_q (q_load_ref sz3 rfl rfl rfl) ?_ | refine rg_q (q_load_tb (x := .d _) sz3 rfl rfl rfl) ?_ | refine rg_q (q_load_tb (x := .rs _) sz3 rfl rfl rfl) ?_
    first | refine rg_q (q_fieldAddr fld32_1 rfl) ?_ | refine rg_q (q_fieldAddr_ref fld32_1 rfl) ?_
    first | refine rg_q (q_load sz3 rfl rfl) ?_ | refine rg_q (q_load_ref sz3 rfl rfl rfl) ?_ | refine rg_q (q_load_tb (x := .d _) sz3 rfl rfl rfl) ?_ | refine rg_q (q_load_tb (x := .rs _) sz3 rfl rfl rfl) ?_
    refine rg_q (q_sub rfl rfl (In64.mk (by omega) (by omega))) ?_
    first | refine rg_q (q_call en20 (.cons rfl (.cons rfl .nil)) rfl (length_p _ _ (by omega) (by omega) (by omega) (by omega))) ?_ | refine rg_q (q_callF en20 (.cons (by first | exact .d _ | exact .rs rfl | exact .ref rfl | exact .nil _ | exact .tref rfl (by repeat (first | exact .nil | refine .cons (.d _ rfl) ?_ | refine .cons (.rs rfl) ?_))) (.cons (by first | exact .d _ | exact .rs rfl | exact .ref rfl | exact .nil _ | exact .tref rfl (by repeat (first | exact .nil | refine .cons (.d _ rfl) ?_ | refine .cons (.rs rfl) ?_))) .nil)) rfl (length_p _ _ (by omega) (by omega) (by omega) (by omega)) (by first | exact .v _ | exact D.Flat.tupF (by repeat first | exact trivial | refine ⟨.v _, ?_⟩) | exact D.Flat.aggF (by repeat first | exact trivial | refine ⟨.v _, ?_⟩))) ?_
    refine rg_q (q_move (x := .d (.v _)) rfl) ?_
    first | refine rg_q (q_call en19 (.cons rfl (.cons rfl .nil)) rfl (time_p _ _ hlr (by omega))) ?_ | refine rg_q (q_callF en19 (.cons (by first | exact .d _ | exact .rs rfl | exact .ref rfl | exact .nil _ | exact .tref rfl (by repeat (first | exact .nil | refine .cons (.d _ rfl) ?_ | refine .cons (.rs rfl) ?_))) (.cons (by first | exact .d _ | exact .rs rfl | exact .ref rfl | exact .nil _ | exact .tref rfl (by repeat (first | exact .nil | refine .cons (.d _ rfl) ?_ | refine .cons (.rs rfl) ?_))) .nil)) rfl (time_p _ _ hlr (by omega)) (by first | exact .v _ | exact D.Flat.tupF (by repeat first | exact trivial | refine ⟨.v _, ?_⟩) | exact D.Flat.aggF (by repeat first | exact trivial | refine ⟨.v _, ?_⟩))) ?_
    refine rg_nil ?_
    first | refine aops_store sz27 rfl rfl (by first | exact .inl rfl | exact .inr ⟨_, rfl⟩) rfl rfl (by first | decide | simp; done | exact Nat.le_of_ble_eq_true rfl) rfl ?_ | refine aops_storeT (z := .rs _) sz27 rfl rfl rfl rfl (by first | decide | simp) rfl ?_ | refine aops_storeT (z := .d _) sz27 rfl rfl rfl rfl (by first | decide | simp) rfl ?_ | refine aops_storeTA sz27 rfl rfl (by first | exact .inl rfl | exact .inr ⟨_, rfl⟩) rfl rfl (by first | decide | simp) rfl ?_
    refine aops_q rfl (q_assign (x := .d (.v _)) rfl) ?_
    refine aops_nil ?_
    change Awp _ _ _ _ _
    refine awp_ret ?_
    refine ⟨_, (.cons (.cellA rfl rfl sz27 rfl) (.cons (.tmp (by first | exact .d _ | exact .rs rfl | exact .ref rfl | exact .tref rfl (.cons (.d _ rfl) (.cons (.rs rfl) .nil)))) .nil)), ?_⟩
    rw [ht]; rfl
end Go.Proofs.Ytgolkffigoabhaa.Am.M
