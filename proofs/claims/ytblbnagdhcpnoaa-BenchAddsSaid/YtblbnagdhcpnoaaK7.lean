/- Contracts over the abstract machine: package bench: samples and traces; floats of the base. Conditions: none. -/
import Derived.Test.YtblbnagdhcpnoaaK6
set_option linter.unusedVariables false
set_option linter.unusedSimpArgs false
-- mini
namespace Go.Proofs.Ytblbnagdhcpnoaa.Am.M
open Go

def iv (n : Int) : D := .v (.int .i64 n)
def fv (n : Int) : D := .v (.float .f32 (FloatKind.f32.nearest n))
def fC (b : Nat) : List D := [.v (.float .f32 b)]
theorem iv_row (S : List Int) : ((S.map iv).map fun d => [d]) = S.map iC := by rw [List.map_map]; rfl
theorem iv_at {S : List Int} {k : Nat} {x : Int} (h : S[k]? = some x) : (S.map iv)[k]? = some (iv x) := by rw [List.getElem?_map, h]; rfl
/-- Samples to which the first k samples of a pulse are added. -/
def adT (S p : List Int) (a t : Int) : Nat → List Int
  | 0 => S
  | k + 1 => if 0 ≤ t + (k : Int) ∧ t + (k : Int) ≤ 63 then (adT S p a t k).set (t + (k : Int)).toNat ((adT S p a t k).getD (t + (k : Int)).toNat 0 + a * p.getD k 0) else adT S p a t k
theorem adT_len {S p : List Int} {a t : Int} : ∀ k : Nat, (adT S p a t k).length = S.length
  | 0 => rfl
  | k + 1 => by
    unfold adT
    split
    · rw [List.length_set]; exact adT_len k
    · exact adT_len k
theorem adT_in {S p : List Int} {a t B : Int} (hS : ∀ v ∈ S, -B ≤ v ∧ v ≤ B) (hp : ∀ n ∈ p, -100000 ≤ a * n ∧ a * n ≤ 100000) : ∀ k : Nat, ∀ v ∈ adT S p a t k, -(B + 100000 * (k : Int)) ≤ v ∧ v ≤ B + 100000 * (k : Int)
  | 0, v, hv => by have := hS v hv; omega
  | k + 1, v, hv => by
    have ih := adT_in (t := t) hS hp k
    unfold adT at hv
    split at hv
    · rcases List.mem_or_eq_of_mem_set hv with h | h
      · have := ih v h; omega
      · subst h
        have h1 : -(B + 100000 * (k : Int)) ≤ (adT S p a t k).getD (t + (k : Int)).toNat 0 ∧ (adT S p a t k).getD (t + (k : Int)).toNat 0 ≤ B + 100000 * (k : Int) := by
          rw [List.getD_eq_getElem?_getD]
          cases hx : (adT S p a t k)[(t + (k : Int)).toNat]? with
          | none =>
            have hB : 0 ≤ B + 100000 * (k : Int) := by
              rename_i hc
              rcases Nat.lt_or_ge (t + (k : Int)).toNat (adT S p a t k).length with q | q
              · rw [List.getElem?_eq_getElem q] at hx; cases hx
              · rw [List.set_eq_of_length_le q] at hv
                have := ih _ hv
                omega
            simp only [Option.getD_none]; omega
          | some u => have := ih u (List.mem_of_getElem? hx); simpa using this
        have h2 : -100000 ≤ a * p.getD k 0 ∧ a * p.getD k 0 ≤ 100000 := by
          rw [List.getD_eq_getElem?_getD]
          cases hx : p[k]? with
          | none => simp
          | some u => simpa using hp u (List.mem_of_getElem? hx)
        omega
    · have := ih v hv; omega
set_option maxRecDepth 100000 in
theorem sampAdd_p (S p : List Int) (a t B : Int) (hS : S.length = 64) (hSb : ∀ v ∈ S, -B ≤ v ∧ v ≤ B) (hB : B ≤ 1000000000000) (hp : p.length ≤ 1000) (hpb : ∀ n ∈ p, -100000 ≤ a * n ∧ a * n ≤ 100000) (ht : -10000000000000 ≤ t ∧ t ≤ 10000000000000) : PCS Try.prog 68 [.ref 0 0, .d (.sl 1 (p.map iC)), .d (.v (.int .i64 a)), .d (.v (.int .i64 t))] [.box (S.map iv)] (.d (.tup [])) [.box ((adT S p a t p.length).map iv)] := by
  obtain ⟨ht1, ht2⟩ := ht
  refine pcs_of_awp Try.func68 rfl Try.ntmps68 (rs := []) Try.results68 (by simp) fun w0 => ?_
  refine awp_seq ?_
  refine awp_region 3 mixed (by kernel_rfl) ?_
  refine rg_q (q_move (x := .d (.sl _ _)) rfl) ?_
  refine rg_q (q_len isl51 rfl (by exact len_map _ _)) ?_
  refine rg_q (q_move (x := .d (.v _)) rfl) ?_
  refine rg_nil ?_
  refine aops_nil ?_
  change Awp _ _ _ _ _
  refine awp_len (t := 11) rfl (fun hl11 => ?_)
  (try simp only [List.length_map] at hl11)
  refine awp_block ?_
  refine awp_loopH [8, 9, 10, 13, 14, 15, 16, 17, 18, 19, 20, 21, 22, 23, 24, 25, 26, 27, 28, 29, 30, 31, 32, 33, 34] [35] (α := Nat) (fun k => [(13, T.i (k : Int))]) (fun k => [(35, .box ((adT S p a t k).map iv))]) (fun k => k ≤ p.length) (fun k => p.length - k) 0 (Nat.zero_le _) ?_ ?_
  · exact le_head (ms := [35]) (by repeat (exact Out.refl _)) ⟨(by rfl), trivial⟩ ⟨(by rfl), trivial⟩ rfl rfl rfl rfl
  ·
    intro k hk
    refine awp_seq ?_
    refine awp_region 1 mixed (by kernel_rfl) ?_
    refine rg_q (q_lss rfl rfl) ?_
    refine rg_nil ?_
    refine aops_nil ?_
    change Awp _ _ _ _ _
    refine awp_seq ?_
    refine awp_cond rfl (fun hc1 => ?_) (fun hc1 => ?_)
    ·
      (try simp only [decide_eq_true_eq, decide_eq_false_iff_not, Bool.and_eq_true, Bool.or_eq_true, Bool.and_eq_false_iff, Bool.or_eq_false_iff, Bool.not_eq_true', Bool.not_eq_false', Bool.not_true, Bool.not_false, bif_and, bif_or, Bool.not_not, ne_eq, Decidable.not_not, not_true_eq_false, not_false_eq_true, Int.not_le, Int.not_lt] at hc1)
      have hlt : k < p.length := by omega
      obtain ⟨x, hx⟩ : ∃ x, p[k]? = some x := ⟨_, List.getElem?_eq_getElem hlt⟩
      have hxb := hpb x (List.mem_of_getElem? hx)
      have hal := adT_len (S := S) (p := p) (a := a) (t := t) k
      have hin := adT_in (t := t) hSb hpb k
      have hpd : p.getD k 0 = x := by rw [List.getD_eq_getElem?_getD, hx]; rfl
      refine awp_skip ?_
      change Awp _ _ _ _ _
      refine awp_seq ?_
      refine awp_block ?_
      refine awp_seq ?_
      refine awp_region 5 mixed (by kernel_rfl) ?_
      refine rg_q (q_move (x := .d (.v _)) rfl) ?_
      refine rg_q (q_indexAddr sl51 rfl rfl (by omega) (map_at (by omega) hx)) ?_
      refine rg_q (q_load sz3 rfl rfl) ?_
      refine rg_q (q_assign (x := .d (.v _)) rfl) ?_
      refine rg_q (q_assign (x := .d (.v _)) rfl) ?_
      refine rg_nil ?_
      refine aops_nil ?_
      change Awp _ _ _ _ _
      refine awp_seq ?_
      refine awp_region 4 mixed (by kernel_rfl) ?_
      refine rg_q (q_move (x := .d (.v _)) rfl) ?_
      refine rg_q (q_move (x := .d (.v _)) rfl) ?_
      refine rg_q (q_add rfl rfl (In64.mk (by omega) (by omega))) ?_
      refine rg_q (q_assign (x := .d (.v _)) rfl) ?_
      refine rg_nil ?_
      refine aops_nil ?_
      change Awp _ _ _ _ _
      refine awp_seq ?_
      refine awp_region 2 mixed (by kernel_rfl) ?_
      refine rg_q (q_move (x := .d (.v _)) rfl) ?_
      refine rg_q (q_call en61 (.cons rfl (.cons rfl (.cons rfl .nil))) rfl (bwithin_p _ _ _)) ?_
      refine rg_nil ?_
      refine aops_nil ?_
      change Awp _ _ _ _ _
      refine awp_cond rfl (fun hc4 => ?_) (fun hc4 => ?_)
      ·
        (try simp only [decide_eq_true_eq, decide_eq_false_iff_not, Bool.and_eq_true, Bool.or_eq_true, Bool.and_eq_false_iff, Bool.or_eq_false_iff, Bool.not_eq_true', Bool.not_eq_false', Bool.not_true, Bool.not_false, bif_and, bif_or, Bool.not_not, ne_eq, Decidable.not_not, not_true_eq_false, not_false_eq_true, Int.not_le, Int.not_lt] at hc4)
        have hkk : 0 ≤ t + (k : Int) ∧ t + (k : Int) ≤ 63 := by simpa [inR] using hc4
        obtain ⟨g1, g2⟩ := hkk
        have hul : (t + (k : Int)).toNat < (adT S p a t k).length := by omega
        obtain ⟨u, hu⟩ : ∃ u, (adT S p a t k)[(t + (k : Int)).toNat]? = some u := ⟨_, List.getElem?_eq_getElem hul⟩
        have hub := hin u (List.mem_of_getElem? hu)
        have hld : ((adT S p a t k).map iv)[0 + (t + (k : Int)).toNat * 1]? = some (iv u) := by rw [Nat.zero_add, Nat.mul_one]; exact iv_at hu
        have hst : setCs ((adT S p a t k).map iv) (0 + (t + (k : Int)).toNat * 1) [iv (u + a * x)] = (adT S p a t (k + 1)).map iv := by
          rw [Nat.zero_add, Nat.mul_one, setCs_one (by rw [List.length_map]; exact hul)]
          have e : adT S p a t (k + 1) = (adT S p a t k).set (t + (k : Int)).toNat (u + a * x) := by
            show (if 0 ≤ t + (k : Int) ∧ t + (k : Int) ≤ 63 then _ else _) = _
            rw [if_pos ⟨g1, g2⟩, hpd, List.getD_eq_getElem?_getD, hu]; rfl
          rw [e, List.map_set]
        refine awp_region 11 mixed (by kernel_rfl) ?_
        refine rg_q (q_move (x := .ref _ _) rfl) ?_
        refine rg_q (q_move (x := .d (.v _)) rfl) ?_
        refine rg_q (q_nilCheck_ref rfl) ?_
        refine rg_q (q_indexAddr_aref ar120 rfl rfl (by omega) (by omega)) ?_
        refine rg_q (q_load_ref sz3 rfl rfl hld) ?_
        refine rg_q (q_move (x := .d (.v _)) rfl) ?_
        refine rg_q (q_move (x := .d (.v _)) rfl) ?_
        refine rg_q (q_mul rfl rfl (In64.mk (by omega) (by omega))) ?_
        refine rg_q (q_add rfl rfl (In64.mk (by omega) (by omega))) ?_
        refine rg_q (q_nilCheck_ref rfl) ?_
        refine rg_q (q_indexAddr_aref ar120 rfl rfl (by omega) (by omega)) ?_
        refine rg_nil ?_
        refine aops_store (cs' := (adT S p a t (k + 1)).map iv) sz3 rfl rfl (by exact .inl rfl) rfl rfl (by rw [List.length_map]; omega) hst ?_
        refine aops_nil ?_
        change Awp _ _ _ _ _
        refine awp_region 2 mixed (by kernel_rfl) ?_
        refine rg_q (q_add rfl rfl (In64.mk (by omega) (by omega))) ?_
        refine rg_q (q_move (x := .d (.v _)) rfl) ?_
        refine rg_nil ?_
        refine aops_nil ?_
        refine ⟨k + 1, by omega, by omega, ?_⟩
        exact le_head (ms := [35]) (by repeat (first | exact Out.head rfl rfl | (refine Out.put ?_ rfl) | (refine Out.site ?_ rfl))) ⟨(by rfl), trivial⟩ ⟨(by rfl), trivial⟩ rfl rfl rfl rfl
      ·
        (try simp only [decide_eq_true_eq, decide_eq_false_iff_not, Bool.and_eq_true, Bool.or_eq_true, Bool.and_eq_false_iff, Bool.or_eq_false_iff, Bool.not_eq_true', Bool.not_eq_false', Bool.not_true, Bool.not_false, bif_and, bif_or, Bool.not_not, ne_eq, Decidable.not_not, not_true_eq_false, not_false_eq_true, Int.not_le, Int.not_lt] at hc4)
        have hst : adT S p a t k = adT S p a t (k + 1) := by
          show _ = (if 0 ≤ t + (k : Int) ∧ t + (k : Int) ≤ 63 then _ else _)
          rw [if_neg]
          intro q
          have : inR 0 (t + (k : Int)) 63 = true := by simp [inR]; omega
          rw [this] at hc4; cases hc4
        refine awp_skip ?_
        change Awp _ _ _ _ _
        refine awp_region 2 mixed (by kernel_rfl) ?_
        refine rg_q (q_add rfl rfl (In64.mk (by omega) (by omega))) ?_
        refine rg_q (q_move (x := .d (.v _)) rfl) ?_
        refine rg_nil ?_
        refine aops_nil ?_
        refine ⟨k + 1, by omega, by omega, ?_⟩
        exact le_head (ms := [35]) (by repeat (first | exact Out.head rfl rfl | (refine Out.put ?_ rfl))) ⟨(by rfl), trivial⟩ ⟨(by (show Site.box _ = Site.box _; rw [hst])), trivial⟩ rfl rfl rfl rfl
    ·
      (try simp only [decide_eq_true_eq, decide_eq_false_iff_not, Bool.and_eq_true, Bool.or_eq_true, Bool.and_eq_false_iff, Bool.or_eq_false_iff, Bool.not_eq_true', Bool.not_eq_false', Bool.not_true, Bool.not_false, bif_and, bif_or, Bool.not_not, ne_eq, Decidable.not_not, not_true_eq_false, not_false_eq_true, Int.not_le, Int.not_lt] at hc1)
      have hkp : k = p.length := by omega
      have hend : adT S p a t k = adT S p a t p.length := by rw [hkp]
      refine awp_exit ?_
      exact end_mk (.inr rfl) [35] .none (by repeat (first | exact trivial | refine ⟨(by (rw [hend]; rfl)), ?_⟩)) rfl

def fz : D := .v (.float .f32 0)
def outT (S : List Int) (k : Nat) : List D := (S.take k).map fv ++ List.replicate (64 - k) fz
theorem setCs_all {cs xs : List D} (h : xs.length = cs.length) : setCs cs 0 xs = xs := by
  unfold setCs
  rw [List.take_zero, Nat.zero_add, h, List.drop_length]; simp
theorem outT_set {S : List Int} {k : Nat} {x : Int} (hS : S.length = 64) (h : S[k]? = some x) : setCs (outT S k) (0 + (k : Int).toNat * 1) [fv x] = outT S (k + 1) := by
  obtain ⟨hlt, hx⟩ := List.getElem?_eq_some_iff.1 h
  have hl : ((S.take k).map fv).length = k := by rw [List.length_map, List.length_take]; omega
  rw [Int.toNat_natCast, Nat.zero_add, Nat.mul_one, setCs_one (by unfold outT; rw [List.length_append, hl, List.length_replicate]; omega)]
  unfold outT
  rw [List.set_append_right _ _ (by omega), hl, Nat.sub_self, show 64 - k = (64 - (k + 1)) + 1 by omega, List.replicate_succ, List.set_cons_zero, List.take_succ_eq_append_getElem hlt, hx, List.map_append, List.append_assoc]
  rfl
theorem outT_all {S : List Int} (hS : S.length = 64) : outT S 64 = S.map fv := by
  unfold outT
  rw [List.take_of_length_le (by omega)]; simp
def bigB (n : Int) : Bool := !inR (-2047) n 2047
def fd (b : Nat) : D := .v (.float .f32 b)
theorem fd_row (l : List Nat) : ((l.map fd).map fun d => [d]) = l.map fC := by rw [List.map_map]; rfl
set_option maxRecDepth 100000 in
theorem trace_p (S : List Int) (hS : S.length = 64) : PC Try.prog 69 [.pt (S.map iv) 0] (.agg (S.map fv)) := by
  refine pc_of_awp Try.func69 rfl Try.ntmps69 (rs := [.cell 2 61]) Try.results69 (by simp) fun w0 => ?_
  refine awp_seq ?_
  refine awp_region 0 mixed (by kernel_rfl) ?_
  refine rg_nil ?_
  refine aops_alloc zr61 rfl rfl rfl ?_
  refine aops_nil ?_
  change Awp _ _ _ _ _
  refine awp_seq ?_
  refine awp_region 0 mixed (by kernel_rfl) ?_
  refine rg_nil ?_
  refine aops_alloc zr61 rfl rfl rfl ?_
  refine aops_nil ?_
  change Awp _ _ _ _ _
  refine awp_seq ?_
  refine awp_seq ?_
  refine awp_region 2 mixed (by kernel_rfl) ?_
  refine rg_q (q_move (x := .d (.pt _ _)) rfl) ?_
  refine rg_q (q_move (x := .d (.v _)) rfl) ?_
  refine rg_nil ?_
  refine aops_nil ?_
  change Awp _ _ _ _ _
  refine awp_block ?_
  refine awp_loopH [4, 5, 7, 8, 9, 10, 11, 12, 13, 14, 15, 16, 17] [3] (α := Nat) (fun k => [(7, T.i (k : Int))]) (fun k => [(3, .box (outT S k))]) (fun k => k ≤ 64) (fun k => 64 - k) 0 (Nat.zero_le _) ?_ ?_
  · exact le_head (ms := [3]) (by repeat (exact Out.refl _)) ⟨(by rfl), trivial⟩ ⟨(by rfl), trivial⟩ rfl rfl rfl rfl
  ·
    intro k hk
    refine awp_seq ?_
    refine awp_region 1 mixed (by kernel_rfl) ?_
    refine rg_q (q_lss rfl rfl) ?_
    refine rg_nil ?_
    refine aops_nil ?_
    change Awp _ _ _ _ _
    refine awp_seq ?_
    refine awp_cond rfl (fun hc3 => ?_) (fun hc3 => ?_)
    ·
      (try simp only [decide_eq_true_eq, decide_eq_false_iff_not, Bool.and_eq_true, Bool.or_eq_true, Bool.and_eq_false_iff, Bool.or_eq_false_iff, Bool.not_eq_true', Bool.not_eq_false', Bool.not_true, Bool.not_false, bif_and, bif_or, Bool.not_not, ne_eq, Decidable.not_not, not_true_eq_false, not_false_eq_true, Int.not_le, Int.not_lt] at hc3)
      have hlt : k < S.length := by omega
      obtain ⟨x, hx⟩ : ∃ x, S[k]? = some x := ⟨_, List.getElem?_eq_getElem hlt⟩
      have hld : (S.map iv)[0 + (k : Int).toNat * 1]? = some (iv x) := by rw [Int.toNat_natCast, Nat.zero_add, Nat.mul_one]; exact iv_at hx
      have hst := outT_set hS hx
      have hol : (outT S k).length = 64 := by unfold outT; rw [List.length_append, List.length_map, List.length_take, List.length_replicate]; omega
      refine awp_skip ?_
      change Awp _ _ _ _ _
      refine awp_seq ?_
      refine awp_block ?_
      refine awp_seq ?_
      refine awp_region 6 mixed (by kernel_rfl) ?_
      refine rg_q (q_move (x := .d (.v _)) rfl) ?_
      refine rg_q (q_nilCheck rfl) ?_
      refine rg_q (q_indexAddr_ar ar120 rfl rfl (by omega) (by omega)) ?_
      refine rg_q (q_load sz3 rfl hld) ?_
      refine rg_q (q_assign (x := .d (.v _)) rfl) ?_
      refine rg_q (q_assign (x := .d (.v _)) rfl) ?_
      refine rg_nil ?_
      refine aops_nil ?_
      change Awp _ _ _ _ _
      refine awp_region 4 mixed (by kernel_rfl) ?_
      refine rg_q (q_move (x := .d (.v _)) rfl) ?_
      refine rg_q (q_move (x := .d (.v _)) rfl) ?_
      refine rg_q (q_convf int3 flt59 rfl) ?_
      refine rg_q (q_indexAddr_aref ar61 rfl rfl (by omega) (by omega)) ?_
      refine rg_nil ?_
      refine aops_store (cs' := outT S (k + 1)) sz59 rfl rfl (by exact .inl rfl) rfl rfl (by rw [hol]; omega) hst ?_
      refine aops_nil ?_
      change Awp _ _ _ _ _
      refine awp_region 2 mixed (by kernel_rfl) ?_
      refine rg_q (q_add rfl rfl (In64.mk (by omega) (by omega))) ?_
      refine rg_q (q_move (x := .d (.v _)) rfl) ?_
      refine rg_nil ?_
      refine aops_nil ?_
      refine ⟨k + 1, by omega, by omega, ?_⟩
      exact le_head (ms := [3]) (by repeat (first | exact Out.head rfl rfl | (refine Out.put ?_ rfl) | (refine Out.site ?_ rfl))) ⟨(by rfl), trivial⟩ ⟨(by rfl), trivial⟩ rfl rfl rfl rfl
    ·
      (try simp only [decide_eq_true_eq, decide_eq_false_iff_not, Bool.and_eq_true, Bool.or_eq_true, Bool.and_eq_false_iff, Bool.or_eq_false_iff, Bool.not_eq_true', Bool.not_eq_false', Bool.not_true, Bool.not_false, bif_and, bif_or, Bool.not_not, ne_eq, Decidable.not_not, not_true_eq_false, not_false_eq_true, Int.not_le, Int.not_lt] at hc3)
      have hk64 : k = 64 := by omega
      subst hk64
      rw [outT_all hS]
      refine awp_exit ?_
      change Awp _ _ _ _ _
      refine awp_seq ?_
      refine awp_region 1 mixed (by kernel_rfl) ?_
      refine rg_q (q_load_refA (ds := S.map fv) sz61 rfl rfl (by rw [List.drop_zero]; exact List.take_of_length_le (by rw [List.length_map]; omega)) (by rw [List.length_map]; exact hS)) ?_
      refine rg_nil ?_
      refine aops_store (cs' := S.map fv) sz61 rfl rfl (by exact .inr ⟨_, rfl⟩) (by show (S.map fv).length = 64; rw [List.length_map]; exact hS) rfl (Nat.le_of_ble_eq_true rfl) (setCs_all (by show (S.map fv).length = 64; rw [List.length_map]; exact hS)) ?_
      refine aops_nil ?_
      change Awp _ _ _ _ _
      refine awp_ret ?_
      refine ⟨_, (.cons (.cellA rfl rfl sz61 (by show (S.map fv).length = _; rw [List.length_map]; exact hS)) .nil), ?_⟩
      rfl
set_option maxRecDepth 100000 in
theorem big1_p (n : Int) : PC Try.prog 116 [.v (.int .i64 (n))] (.v (.bool (bigB n))) := by
  refine pc_of_awp Try.func116 rfl Try.ntmps116 (rs := [.tmp 2]) Try.results116 (by simp) fun w0 => ?_
  refine awp_seq ?_
  refine awp_region 1 mixed (by kernel_rfl) ?_
  refine rg_q (q_assign (x := .d (.v _)) rfl) ?_
  refine rg_nil ?_
  refine aops_nil ?_
  change Awp _ _ _ _ _
  refine awp_seq ?_
  refine awp_region 4 mixed (by kernel_rfl) ?_
  refine rg_q (q_move (x := .d (.v _)) rfl) ?_
  refine rg_q (q_call en62 (.cons rfl (.cons rfl .nil)) rfl (bsmall_p _ _ (by omega) (by omega))) ?_
  refine rg_q (q_not rfl) ?_
  refine rg_q (q_assign (x := .d (.v _)) rfl) ?_
  refine rg_nil ?_
  refine aops_nil ?_
  change Awp _ _ _ _ _
  refine awp_ret ?_
  refine ⟨_, (.cons (.tmp (by exact .d _)) .nil), ?_⟩
  rfl
set_option maxRecDepth 100000 in
theorem tooLarge_p (S : List Int) (hS : S.length = 64) : PC Try.prog 87 [.pt (S.map iv) 0] (.v (.int .i64 (whenI (S.any bigB) 8))) := by
  refine pc_of_awp Try.func87 rfl Try.ntmps87 (rs := [.tmp 2]) Try.results87 (by simp) fun w0 => ?_
  refine awp_seq ?_
  refine awp_region 1 mixed (by kernel_rfl) ?_
  refine rg_q (q_assign (x := .d (.v _)) rfl) ?_
  refine rg_nil ?_
  refine aops_nil ?_
  change Awp _ _ _ _ _
  refine awp_seq ?_
  refine awp_region 6 mixed (by kernel_rfl) ?_
  refine rg_q (q_move (x := .d (.pt _ _)) rfl) ?_
  refine rg_q (q_nilCheck rfl) ?_
  refine rg_q (q_sliceP (es := S.map iC) ar120 rfl (by rw [List.length_map]; exact hS) (by decide) (by decide) (iv_row S)) ?_
  refine rg_q (q_call en107 (.cons rfl (.cons rfl .nil)) rfl (containsInt_p bigB 116 [] en116 S (fun a _ => big1_p a))) ?_
  refine rg_q (q_call en51 (.cons rfl (.cons rfl .nil)) rfl (when_p _ _)) ?_
  refine rg_q (q_assign (x := .d (.v _)) rfl) ?_
  refine rg_nil ?_
  refine aops_nil ?_
  change Awp _ _ _ _ _
  refine awp_ret ?_
  refine ⟨_, (.cons (.tmp (by exact .d _)) .nil), ?_⟩
  rfl
set_option maxRecDepth 100000 in
theorem sameFloats_p (l m : List Nat) : PC Try.prog 72 [.sl 1 (l.map fC), .sl 1 (m.map fC)] (.v (.bool (decide (l = m)))) := by
  refine pc_of_awp Try.func72 rfl Try.ntmps72 (rs := [.tmp 4]) Try.results72 (by simp) fun w0 => ?_
  refine awp_seq ?_
  refine awp_region 1 mixed (by kernel_rfl) ?_
  refine rg_q (q_assign (x := .d (.v _)) rfl) ?_
  refine rg_nil ?_
  refine aops_nil ?_
  change Awp _ _ _ _ _
  refine awp_seq ?_
  refine awp_seq ?_
  refine awp_region 5 mixed (by kernel_rfl) ?_
  refine rg_q (q_move (x := .d (.sl _ _)) rfl) ?_
  refine rg_q (q_len isl84 rfl (by exact len_map _ _)) ?_
  refine rg_q (q_move (x := .d (.sl _ _)) rfl) ?_
  refine rg_q (q_len isl84 rfl (by exact len_map _ _)) ?_
  refine rg_q (q_neq rfl rfl) ?_
  refine rg_nil ?_
  refine aops_nil ?_
  change Awp _ _ _ _ _
  refine awp_len (t := 6) rfl (fun hl6 => ?_)
  (try simp only [List.length_map] at hl6)
  refine awp_len (t := 8) rfl (fun hl8 => ?_)
  (try simp only [List.length_map] at hl8)
  refine awp_cond rfl (fun hc1 => ?_) (fun hc1 => ?_)
  ·
    (try simp only [decide_eq_true_eq, decide_eq_false_iff_not, Bool.and_eq_true, Bool.or_eq_true, Bool.and_eq_false_iff, Bool.or_eq_false_iff, Bool.not_eq_true', Bool.not_eq_false', Bool.not_true, Bool.not_false, bif_and, bif_or, Bool.not_not, ne_eq, Decidable.not_not, not_true_eq_false, not_false_eq_true, Int.not_le, Int.not_lt] at hc1)
    have hz : decide (l = m) = false := decide_eq_false (fun e => by rw [e] at hc1; omega)
    refine awp_seq ?_
    refine awp_region 1 mixed (by kernel_rfl) ?_
    refine rg_q (q_assign (x := .d (.v _)) rfl) ?_
    refine rg_nil ?_
    refine aops_nil ?_
    change Awp _ _ _ _ _
    refine awp_ret ?_
    refine ⟨_, (.cons (.tmp (by exact .d _)) .nil), ?_⟩
    rw [hz]; rfl
  ·
    (try simp only [decide_eq_true_eq, decide_eq_false_iff_not, Bool.and_eq_true, Bool.or_eq_true, Bool.and_eq_false_iff, Bool.or_eq_false_iff, Bool.not_eq_true', Bool.not_eq_false', Bool.not_true, Bool.not_false, bif_and, bif_or, Bool.not_not, ne_eq, Decidable.not_not, not_true_eq_false, not_false_eq_true, Int.not_le, Int.not_lt] at hc1)
    have hlm : l.length = m.length := by omega
    refine awp_skip ?_
    change Awp _ _ _ _ _
    refine awp_seq ?_
    refine awp_seq ?_
    refine awp_region 1 mixed (by kernel_rfl) ?_
    refine rg_q (q_assign (x := .d (.v _)) rfl) ?_
    refine rg_nil ?_
    refine aops_nil ?_
    change Awp _ _ _ _ _
    refine awp_block ?_
    refine awp_loopH [4, 5, 11, 12, 13, 14, 15, 16, 17, 18, 19, 20, 21, 22, 23, 24, 25, 26, 27] [] (α := Nat) (fun k => [(5, T.i (k : Int))]) (fun k => []) (fun k => k ≤ l.length ∧ l.take k = m.take k) (fun k => l.length - k) 0 ⟨Nat.zero_le _, rfl⟩ ?_ ?_
    · exact le_head (ms := []) (by repeat (exact Out.refl _)) ⟨(by rfl), trivial⟩ trivial rfl rfl rfl rfl
    ·
      intro k ⟨hk, hf⟩
      refine awp_seq ?_
      refine awp_seq ?_
      refine awp_region 4 mixed (by kernel_rfl) ?_
      refine rg_q (q_move (x := .d (.v _)) rfl) ?_
      refine rg_q (q_move (x := .d (.sl _ _)) rfl) ?_
      refine rg_q (q_len isl84 rfl (by exact len_map _ _)) ?_
      refine rg_q (q_lss rfl rfl) ?_
      refine rg_nil ?_
      refine aops_nil ?_
      change Awp _ _ _ _ _
      refine awp_len (t := 12) rfl (fun hl12 => ?_)
      (try simp only [List.length_map] at hl12)
      refine awp_cond rfl (fun hc4 => ?_) (fun hc4 => ?_)
      ·
        (try simp only [decide_eq_true_eq, decide_eq_false_iff_not, Bool.and_eq_true, Bool.or_eq_true, Bool.and_eq_false_iff, Bool.or_eq_false_iff, Bool.not_eq_true', Bool.not_eq_false', Bool.not_true, Bool.not_false, bif_and, bif_or, Bool.not_not, ne_eq, Decidable.not_not, not_true_eq_false, not_false_eq_true, Int.not_le, Int.not_lt] at hc4)
        have hlt : k < l.length := by omega
        obtain ⟨x, hx⟩ : ∃ x, l[k]? = some x := ⟨_, List.getElem?_eq_getElem hlt⟩
        obtain ⟨y, hy⟩ : ∃ y, m[k]? = some y := ⟨_, List.getElem?_eq_getElem (by omega)⟩
        refine awp_skip ?_
        change Awp _ _ _ _ _
        refine awp_seq ?_
        refine awp_block ?_
        refine awp_seq ?_
        refine awp_region 11 mixed (by kernel_rfl) ?_
        refine rg_q (q_move (x := .d (.sl _ _)) rfl) ?_
        refine rg_q (q_move (x := .d (.v _)) rfl) ?_
        refine rg_q (q_indexAddr sl84 rfl rfl (by omega) (map_at (k := k) (by omega) hx)) ?_
        refine rg_q (q_load sz59 rfl rfl) ?_
        refine rg_q (q_ext1 (e := Extern.MathFloatBits.float32bits) Try.func109 (by kernel_rfl) (by kernel_rfl) (by kernel_rfl) (by kernel_rfl) rfl rfl (fun w => rfl) rfl) ?_
        refine rg_q (q_move (x := .d (.sl _ _)) rfl) ?_
        refine rg_q (q_move (x := .d (.v _)) rfl) ?_
        refine rg_q (q_indexAddr sl84 rfl rfl (by omega) (map_at (k := k) (by omega) hy)) ?_
        refine rg_q (q_load sz59 rfl rfl) ?_
        refine rg_q (q_ext1 (e := Extern.MathFloatBits.float32bits) Try.func109 (by kernel_rfl) (by kernel_rfl) (by kernel_rfl) (by kernel_rfl) rfl rfl (fun w => rfl) rfl) ?_
        refine rg_q (q_neq rfl rfl) ?_
        refine rg_nil ?_
        refine aops_nil ?_
        change Awp _ _ _ _ _
        refine awp_cond rfl (fun hc6 => ?_) (fun hc6 => ?_)
        ·
          (try simp only [decide_eq_true_eq, decide_eq_false_iff_not, Bool.and_eq_true, Bool.or_eq_true, Bool.and_eq_false_iff, Bool.or_eq_false_iff, Bool.not_eq_true', Bool.not_eq_false', Bool.not_true, Bool.not_false, bif_and, bif_or, Bool.not_not, ne_eq, Decidable.not_not, not_true_eq_false, not_false_eq_true, Int.not_le, Int.not_lt] at hc6)
          have hz : decide (l = m) = false := decide_eq_false (fun e => by rw [e, hy] at hx; have := Option.some.inj hx; omega)
          refine awp_seq ?_
          refine awp_region 1 mixed (by kernel_rfl) ?_
          refine rg_q (q_assign (x := .d (.v _)) rfl) ?_
          refine rg_nil ?_
          refine aops_nil ?_
          change Awp _ _ _ _ _
          refine awp_ret ?_
          refine ⟨_, (.cons (.tmp (by exact .d _)) .nil), ?_⟩
          rw [hz]; rfl
        ·
          (try simp only [decide_eq_true_eq, decide_eq_false_iff_not, Bool.and_eq_true, Bool.or_eq_true, Bool.and_eq_false_iff, Bool.or_eq_false_iff, Bool.not_eq_true', Bool.not_eq_false', Bool.not_true, Bool.not_false, bif_and, bif_or, Bool.not_not, ne_eq, Decidable.not_not, not_true_eq_false, not_false_eq_true, Int.not_le, Int.not_lt] at hc6)
          have hxy : x = y := by omega
          have hnx : l.take (k + 1) = m.take (k + 1) := by rw [List.take_succ_eq_append_getElem hlt, List.take_succ_eq_append_getElem (by omega), hf, (List.getElem?_eq_some_iff.1 hx).2, (List.getElem?_eq_some_iff.1 hy).2, hxy]
          refine awp_skip ?_
          change Awp _ _ _ _ _
          refine awp_region 3 mixed (by kernel_rfl) ?_
          refine rg_q (q_move (x := .d (.v _)) rfl) ?_
          refine rg_q (q_add rfl rfl (In64.mk (by omega) (by omega))) ?_
          refine rg_q (q_assign (x := .d (.v _)) rfl) ?_
          refine rg_nil ?_
          refine aops_nil ?_
          refine ⟨k + 1, ⟨by omega, hnx⟩, by omega, ?_⟩
          exact le_head (ms := []) (by repeat (first | exact Out.head rfl rfl | (refine Out.put ?_ rfl))) ⟨(by rfl), trivial⟩ trivial rfl rfl rfl rfl
      ·
        (try simp only [decide_eq_true_eq, decide_eq_false_iff_not, Bool.and_eq_true, Bool.or_eq_true, Bool.and_eq_false_iff, Bool.or_eq_false_iff, Bool.not_eq_true', Bool.not_eq_false', Bool.not_true, Bool.not_false, bif_and, bif_or, Bool.not_not, ne_eq, Decidable.not_not, not_true_eq_false, not_false_eq_true, Int.not_le, Int.not_lt] at hc4)
        have hz : decide (l = m) = true := decide_eq_true (by rw [← List.take_of_length_le (l := l) (i := k) (by omega), hf, List.take_of_length_le (by omega)])
        refine awp_exit ?_
        change Awp _ _ _ _ _
        refine awp_seq ?_
        refine awp_region 1 mixed (by kernel_rfl) ?_
        refine rg_q (q_assign (x := .d (.v _)) rfl) ?_
        refine rg_nil ?_
        refine aops_nil ?_
        change Awp _ _ _ _ _
        refine awp_ret ?_
        refine ⟨_, (.cons (.tmp (by exact .d _)) .nil), ?_⟩
        rw [hz]; rfl
set_option maxRecDepth 100000 in
theorem sameTrace_p (l m : List Nat) (hl : l.length = 64) (hm : m.length = 64) : PC Try.prog 29 [.agg (l.map fd), .agg (m.map fd)] (.v (.bool (decide (l = m)))) := by
  refine pc_of_awpN Try.func29 rfl Try.ntmps29 (rs := [.tmp 4]) Try.results29 (by simp) fun w0 hmine hrnd hpn => ?_
  refine awp_seq ?_
  refine awp_region 3 mixed (by kernel_rfl) ?_
  refine rg_q (q_box rfl (by exact .inr ⟨_, rfl⟩)) ?_
  refine rg_q (q_box rfl (by exact .inr ⟨_, rfl⟩)) ?_
  refine rg_q (q_assign (x := .d (.v _)) rfl) ?_
  refine rg_nil ?_
  refine aops_nil ?_
  change Awp _ _ _ _ _
  refine awp_seq ?_
  refine awp_region 4 mixed (by kernel_rfl) ?_
  refine rg_q (q_sliceP (es := l.map fC) ar61 rfl (by show (l.map fd).length = _; rw [List.length_map]; exact hl) (by decide) (by decide) (fd_row l)) ?_
  refine rg_q (q_sliceP (es := m.map fC) ar61 rfl (by show (m.map fd).length = _; rw [List.length_map]; exact hm) (by decide) (by decide) (fd_row m)) ?_
  refine rg_q (q_call en72 (.cons rfl (.cons rfl .nil)) rfl (sameFloats_p l m)) ?_
  refine rg_q (q_assign (x := .d (.v _)) rfl) ?_
  refine rg_nil ?_
  refine aops_nil ?_
  change Awp _ _ _ _ _
  refine awp_ret ?_
  refine ⟨_, (.cons (.tmp (by exact .d _)) .nil), ?_⟩
  rfl
end Go.Proofs.Ytblbnagdhcpnoaa.Am.M
