/- Contracts over the abstract machine: chapter 9: the boxes that have a mark; Decide. Conditions: none. -/
import Derived.Test.YthpggoophcdgnaaDoorS5
set_option linter.unusedVariables false
set_option linter.unusedSimpArgs false
-- mini
namespace Go.Proofs.YthpggoophcdgnaaDoor.Am.M
open Go

def idxOf {α : Type} (f : α → Bool) : Nat → List α → Int
  | _, [] => -1
  | i, x :: xs => if f x = true then (i : Int) else idxOf f (i + 1) xs
set_option maxRecDepth 100000 in
theorem indexInt_p (f : Int → Bool) (g : FuncId) (cap : List D) (hen : enB Tryd.prog g = true) (l : List Int) (hf : ∀ a ∈ l, PC Tryd.prog g (.v (.int .i64 a) :: cap) (.v (.bool (f a)))) : PC Tryd.prog 55 [.sl 1 (l.map iC), .fn (.func g) cap] (.v (.int .i64 (idxOf f 0 l))) := by
  refine pc_of_awp Tryd.func55 rfl Tryd.ntmps55 (rs := [.tmp 4]) Tryd.results55 (by simp) fun w0 => ?_
  refine awp_seq ?_
  refine awp_region 1 mixed (by kernel_rfl) ?_
  refine rg_q (q_assign (x := .d (.v _)) rfl) ?_
  refine rg_nil ?_
  refine aops_nil ?_
  change Awp _ _ _ _ _
  refine awp_seq ?_
  refine awp_seq ?_
  refine awp_region 3 mixed (by kernel_rfl) ?_
  refine rg_q (q_move (x := .d (.sl _ _)) rfl) ?_
  refine rg_q (q_len isl92 rfl (by exact len_map _ _)) ?_
  refine rg_q (q_move (x := .d (.v _)) rfl) ?_
  refine rg_nil ?_
  refine aops_nil ?_
  change Awp _ _ _ _ _
  refine awp_len (t := 6) rfl (fun hl6 => ?_)
  (try simp only [List.length_map] at hl6)
  refine awp_block ?_
  refine awp_loopH [4, 5, 8, 9, 10, 11, 12, 13, 14, 15, 16, 17, 18] [] (α := Nat) (fun k => [(8, T.i (k : Int))]) (fun k => []) (fun k => k ≤ l.length ∧ idxOf f 0 l = idxOf f k (l.drop k)) (fun k => l.length - k) 0 ⟨Nat.zero_le _, rfl⟩ ?_ ?_
  · exact le_head (ms := []) (by repeat (exact Out.refl _)) ⟨(by rfl), trivial⟩ trivial rfl rfl rfl rfl
  ·
    intro k ⟨hk, hh⟩
    refine awp_seq ?_
    refine awp_region 1 mixed (by kernel_rfl) ?_
    refine rg_q (q_lss rfl rfl) ?_
    refine rg_nil ?_
    refine aops_nil ?_
    change Awp _ _ _ _ _
    refine awp_seq ?_
    refine awp_cond rfl (fun hc2 => ?_) (fun hc2 => ?_)
    ·
      (try simp only [nb, ne_eq] at hc2)
      have hlt : k < l.length := by omega
      have hx := List.getElem?_eq_getElem hlt
      have hd : idxOf f k (l.drop k) = if f l[k] = true then (k : Int) else idxOf f (k + 1) (l.drop (k + 1)) := by rw [List.drop_eq_getElem_cons hlt]; rfl
      have hfx := hf l[k] (List.getElem_mem hlt)
      generalize l[k] = x at *
      refine awp_skip ?_
      change Awp _ _ _ _ _
      refine awp_seq ?_
      refine awp_block ?_
      refine awp_seq ?_
      refine awp_region 2 mixed (by kernel_rfl) ?_
      refine rg_q (q_move (x := .d (.v _)) rfl) ?_
      refine rg_q (q_assign (x := .d (.v _)) rfl) ?_
      refine rg_nil ?_
      refine aops_nil ?_
      change Awp _ _ _ _ _
      refine awp_seq ?_
      refine awp_region 6 mixed (by kernel_rfl) ?_
      refine rg_q (q_move (x := .d (.fn _ _)) rfl) ?_
      refine rg_q (q_move (x := .d (.sl _ _)) rfl) ?_
      refine rg_q (q_move (x := .d (.v _)) rfl) ?_
      refine rg_q (q_indexAddr sl92 rfl rfl (by omega) (map_at (by omega) hx)) ?_
      refine rg_q (q_load sz3 rfl rfl) ?_
      refine rg_q (q_callC hen rfl (.cons rfl .nil) (hfx)) ?_
      refine rg_nil ?_
      refine aops_nil ?_
      change Awp _ _ _ _ _
      refine awp_cond rfl (fun hc4 => ?_) (fun hc4 => ?_)
      ·
        (try simp only [nb, ne_eq] at hc4)
        refine awp_seq ?_
        refine awp_region 2 mixed (by kernel_rfl) ?_
        refine rg_q (q_move (x := .d (.v _)) rfl) ?_
        refine rg_q (q_assign (x := .d (.v _)) rfl) ?_
        refine rg_nil ?_
        refine aops_nil ?_
        change Awp _ _ _ _ _
        refine awp_ret ?_
        refine ⟨_, (.cons (.tmp (by exact .d _)) .nil), ?_⟩
        rw [hh, hd, if_pos (by simpa using hc4)]; rfl
      ·
        (try simp only [nb, ne_eq] at hc4)
        refine awp_skip ?_
        change Awp _ _ _ _ _
        refine awp_region 2 mixed (by kernel_rfl) ?_
        refine rg_q (q_add rfl rfl (In64.mk (by omega) (by omega))) ?_
        refine rg_q (q_move (x := .d (.v _)) rfl) ?_
        refine rg_nil ?_
        refine aops_nil ?_
        refine ⟨k + 1, ⟨by omega, by rw [hh, hd, if_neg (by simpa using hc4)]⟩, by omega, ?_⟩
        exact le_head (ms := []) (by repeat (first | exact Out.head rfl rfl | (refine Out.put ?_ rfl))) ⟨(by rfl), trivial⟩ trivial rfl rfl rfl rfl
    ·
      (try simp only [nb, ne_eq] at hc2)
      refine awp_exit ?_
      change Awp _ _ _ _ _
      refine awp_seq ?_
      refine awp_region 1 mixed (by kernel_rfl) ?_
      refine rg_q (q_assign (x := .d (.v _)) rfl) ?_
      refine rg_nil ?_
      refine aops_nil ?_
      change Awp _ _ _ _ _
      refine awp_ret ?_
      refine ⟨_, (.cons (.tmp (by exact .d _)) .nil), ?_⟩
      rw [hh, List.drop_of_length_le (by omega)]; rfl

theorem idxOf_any {α : Type} (f : α → Bool) : ∀ (l : List α) (i : Nat), decide (0 ≤ idxOf f i l) = l.any f
  | [], i => by unfold idxOf; simp
  | x :: xs, i => by
    unfold idxOf
    by_cases h : f x = true
    · rw [if_pos h]; simp [h]
    · rw [if_neg h, idxOf_any f xs]; simp [h]
theorem idxOf_mem {α : Type} (f : α → Bool) (l : List α) : decide (0 ≤ idxOf f 0 l) = l.any f := idxOf_any f l 0
set_option maxRecDepth 100000 in
theorem containsInt_p (f : Int → Bool) (g : FuncId) (cap : List D) (hen : enB Tryd.prog g = true) (l : List Int) (hf : ∀ a ∈ l, PC Tryd.prog g (.v (.int .i64 a) :: cap) (.v (.bool (f a)))) : PC Tryd.prog 46 [.sl 1 (l.map iC), .fn (.func g) cap] (.v (.bool (l.any f))) := by
  have hm := idxOf_mem f l
  refine pc_of_awp Tryd.func46 rfl Tryd.ntmps46 (rs := [.tmp 4]) Tryd.results46 (by simp) fun w0 => ?_
  refine awp_seq ?_
  refine awp_region 1 mixed (by kernel_rfl) ?_
  refine rg_q (q_assign (x := .d (.v _)) rfl) ?_
  refine rg_nil ?_
  refine aops_nil ?_
  change Awp _ _ _ _ _
  refine awp_seq ?_
  refine awp_region 5 mixed (by kernel_rfl) ?_
  refine rg_q (q_move (x := .d (.sl _ _)) rfl) ?_
  refine rg_q (q_move (x := .d (.fn _ _)) rfl) ?_
  refine rg_q (q_call en55 (.cons rfl (.cons rfl .nil)) rfl (indexInt_p f g cap hen l hf)) ?_
  refine rg_q (q_geq rfl rfl) ?_
  refine rg_q (q_assign (x := .d (.v _)) rfl) ?_
  refine rg_nil ?_
  refine aops_nil ?_
  change Awp _ _ _ _ _
  refine awp_ret ?_
  refine ⟨_, (.cons (.tmp (by exact .d _)) .nil), ?_⟩
  rw [← hm]; rfl

def hasQ (b : Bx) (m : Mk) (k : Nat) : Bool := inR (b.at k).1 (m.at k) (b.at k).2
def hasB (b : Bx) (m : Mk) : Bool := hasQ b m 0 && hasQ b m 1 && hasQ b m 2 && hasQ b m 3 && hasQ b m 4 && hasQ b m 5
def qL : List Int := [0, 1, 2, 3, 4, 5]
theorem has_any (b : Bx) (m : Mk) : hasB b m = !(qL.any fun q => !hasQ b m q.toNat) := by
  simp only [qL, List.any_cons, List.any_nil, hasB, Bool.or_false, Bool.not_or, Bool.not_not, Bool.and_assoc]; rfl
theorem rw_lo (r : Rw) {k : Nat} (h : k < 6) : (rwC r)[0 + 0 + (k : Int).toNat * 2 + 0]? = some (iv (r.bx.at k).1) := by
  rcases lt6 h with rfl | rfl | rfl | rfl | rfl | rfl <;> rfl
theorem rw_hi (r : Rw) {k : Nat} (h : k < 6) : (rwC r)[0 + 0 + (k : Int).toNat * 2 + 1]? = some (iv (r.bx.at k).2) := by
  rcases lt6 h with rfl | rfl | rfl | rfl | rfl | rfl <;> rfl
def sOfK (l : List Rw) (m : Mk) : Nat → Nat
  | 0 => 0
  | k + 1 => match l[k]? with | some r => (if hasB r.bx m = true then sOfK l m k ||| 2 ^ k else sOfK l m k) | none => sOfK l m k
def sOf (l : List Rw) (m : Mk) : Nat := sOfK l m l.length
theorem sOfK_lt (l : List Rw) (m : Mk) : ∀ k, sOfK l m k < 2 ^ k
  | 0 => Nat.one_pos
  | k + 1 => by
    have ih := sOfK_lt l m k
    have h2 : 2 ^ k < 2 ^ (k + 1) := Nat.pow_lt_pow_right (by decide) (Nat.lt_succ_self k)
    unfold sOfK
    cases l[k]? with
    | none => exact Nat.lt_trans ih h2
    | some r =>
      show (if hasB r.bx m = true then _ else _) < _
      split
      · exact Nat.or_lt_two_pow (Nat.lt_trans ih h2) h2
      · exact Nat.lt_trans ih h2
theorem sOf_lt (l : List Rw) (m : Mk) (h : l.length ≤ 60) : sOf l m < 2 ^ 60 := Nat.lt_of_lt_of_le (sOfK_lt l m l.length) (Nat.pow_le_pow_right (by decide) h)
theorem ctz_spec {n : Nat} (h0 : n ≠ 0) (h : n < 2 ^ 64) : ∃ m, n = 2 ^ ctz n * (2 * m + 1) ∧ ctz n < 64 := by
  unfold ctz Lib.ctz
  rw [if_neg h0]
  exact Lib.ctzFrom_spec 64 n (Nat.pos_of_ne_zero h0) h
theorem ctz_lt {n k : Nat} (h0 : n ≠ 0) (h : n < 2 ^ k) (hk : k ≤ 64) : ctz n < k := by
  obtain ⟨m, e, _⟩ := ctz_spec h0 (Nat.lt_of_lt_of_le h (Nat.pow_le_pow_right (by decide) hk))
  have : 2 ^ ctz n ≤ n := Nat.le_trans (Nat.le_mul_of_pos_right _ (Nat.succ_pos (2 * m))) (Nat.le_of_eq e.symm)
  exact (Nat.pow_lt_pow_iff_right (by decide)).1 (Nat.lt_of_le_of_lt this h)
set_option maxRecDepth 100000 in
theorem setOf1_p (m : Mk) (r : Rw) (k : Nat) (h : k < 6) : PC Tryd.prog 48 [.v (.int .i64 ((k : Int))), .pt (mkC m) 0, .pt (rwC r) 0] (.v (.bool (!hasQ r.bx m k))) := by
  refine pc_of_awp Tryd.func48 rfl Tryd.ntmps48 (rs := [.tmp 4]) Tryd.results48 (by simp) fun w0 => ?_
  refine awp_seq ?_
  refine awp_region 1 mixed (by kernel_rfl) ?_
  refine rg_q (q_assign (x := .d (.v _)) rfl) ?_
  refine rg_nil ?_
  refine aops_nil ?_
  change Awp _ _ _ _ _
  refine awp_seq ?_
  refine awp_region 16 mixed (by kernel_rfl) ?_
  refine rg_q (q_move (x := .d (.v _)) rfl) ?_
  refine rg_q (q_indexAddr_ar ar27 rfl rfl (by omega) (by omega)) ?_
  refine rg_q (q_load sz3 rfl (mk_at m h)) ?_
  refine rg_q (q_move (x := .d (.v _)) rfl) ?_
  refine rg_q (q_fieldAddr fld43_0 rfl) ?_
  refine rg_q (q_indexAddr_ar ar41 rfl rfl (by omega) (by omega)) ?_
  refine rg_q (q_fieldAddr fld39_0 rfl) ?_
  refine rg_q (q_load sz3 rfl (rw_lo r h)) ?_
  refine rg_q (q_move (x := .d (.v _)) rfl) ?_
  refine rg_q (q_fieldAddr fld43_0 rfl) ?_
  refine rg_q (q_indexAddr_ar ar41 rfl rfl (by omega) (by omega)) ?_
  refine rg_q (q_fieldAddr fld39_1 rfl) ?_
  refine rg_q (q_load sz3 rfl (rw_hi r h)) ?_
  refine rg_q (q_call en37 (.cons rfl (.cons rfl (.cons rfl .nil))) rfl (within_p _ _ _)) ?_
  refine rg_q (q_not rfl) ?_
  refine rg_q (q_assign (x := .d (.v _)) rfl) ?_
  refine rg_nil ?_
  refine aops_nil ?_
  change Awp _ _ _ _ _
  refine awp_ret ?_
  refine ⟨_, (.cons (.tmp (by exact .d _)) .nil), ?_⟩
  rfl
set_option maxRecDepth 100000 in
theorem quants_p  : PC Tryd.prog 47 [] (.sl 1 (qL.map iC)) := by
  refine pc_of_awpN Tryd.func47 rfl Tryd.ntmps47 (rs := [.tmp 0]) Tryd.results47 (by simp) fun w0 hmine hrnd hpn => ?_
  refine awp_seq ?_
  refine awp_region 1 mixed (by kernel_rfl) ?_
  refine rg_q (q_assign (x := .d (.sl _ _)) rfl) ?_
  refine rg_nil ?_
  refine aops_nil ?_
  change Awp _ _ _ _ _
  refine awp_seq ?_
  refine awp_region 1 mixed (by kernel_rfl) ?_
  refine rg_q (q_assign_nil) ?_
  refine rg_nil ?_
  refine aops_nil ?_
  change Awp _ _ _ _ _
  refine Awp.le (le_own (k := 1) (e := 3) (sz := 1) rfl rfl) ?_
  refine awp_seq ?_
  refine awp_seq ?_
  refine awp_region 1 mixed (by kernel_rfl) ?_
  refine rg_q (q_move (x := .d (.v _)) rfl) ?_
  refine rg_nil ?_
  refine aops_nil ?_
  change Awp _ _ _ _ _
  refine awp_block ?_
  refine awp_loopH [1, 2, 3, 4, 5, 6, 7, 8, 9, 10] [1] (α := Nat) (fun k => [(3, T.i (k : Int)), (1, .rs 1)]) (fun k => [(1, .row 3 1 ((qL.take k).map iC))]) (fun k => k ≤ 6) (fun k => 6 - k) 0 (Nat.zero_le _) ?_ ?_
  · exact le_head (ms := [1]) (by repeat (exact Out.refl _)) ⟨(by rfl), (by rfl), trivial⟩ ⟨(by rfl), trivial⟩ rfl rfl rfl rfl
  ·
    intro k hk
    refine awp_seq ?_
    refine awp_region 1 mixed (by kernel_rfl) ?_
    refine rg_q (q_lss rfl rfl) ?_
    refine rg_nil ?_
    refine aops_nil ?_
    change Awp _ _ _ _ _
    refine awp_seq ?_
    refine awp_cond rfl (fun hc3 => ?_) (fun hc3 => ?_)
    ·
      (try simp only [nb, ne_eq] at hc3)
      have hlt : k < 6 := by omega
      have hql : (qL.take k).length ≤ 6 := by rw [List.length_take]; exact Nat.min_le_right _ _
      have hsk : ((qL.take (k + 1)).map iC) = ((qL.take k).map iC) ++ [[.v (.int .i64 (k : Int))]] := by rcases lt6 hlt with rfl | rfl | rfl | rfl | rfl | rfl <;> rfl
      refine awp_skip ?_
      change Awp _ _ _ _ _
      refine awp_seq ?_
      refine awp_block ?_
      refine awp_seq ?_
      refine awp_region 2 mixed (by kernel_rfl) ?_
      refine rg_q (q_move (x := .d (.v _)) rfl) ?_
      refine rg_q (q_assign (x := .d (.v _)) rfl) ?_
      refine rg_nil ?_
      refine aops_nil ?_
      change Awp _ _ _ _ _
      refine awp_region 3 mixed (by kernel_rfl) ?_
      refine rg_q (q_move (x := .rs _) rfl) ?_
      refine rg_q (q_move (x := .d (.v _)) rfl) ?_
      refine rg_q (q_buildSlice sl92 zr3 rfl rfl (by decide) (.cons rfl (by exact .inl rfl) .nil) ⟨rfl, rfl, trivial⟩ rfl (by decide) rfl) ?_
      refine rg_nil ?_
      refine aops_append sl92 zr3 by3 rfl (by decide) rfl rfl rfl rfl (by (try simp only [List.length_map, List.length_append, List.length_cons, List.length_nil]); omega) (by (try simp only [List.length_map, List.length_append, List.length_cons, List.length_nil]); omega) rfl rfl ?_
      refine aops_q rfl (q_assign (x := .rs _) rfl) ?_
      refine aops_nil ?_
      change Awp _ _ _ _ _
      refine awp_region 2 mixed (by kernel_rfl) ?_
      refine rg_q (q_add rfl rfl (In64.mk (by omega) (by omega))) ?_
      refine rg_q (q_move (x := .d (.v _)) rfl) ?_
      refine rg_nil ?_
      refine aops_nil ?_
      refine ⟨k + 1, by omega, by omega, ?_⟩
      exact le_head (ms := [1]) (by repeat (first | exact Out.head rfl rfl | (refine Out.put ?_ rfl) | (refine Out.site ?_ rfl) | (refine Out.killS ?_ rfl))) ⟨(by rfl), (by rfl), trivial⟩ ⟨(by ((show Site.row 3 1 (_ ++ [_]) = Site.row 3 1 _; rw [hsk]; rfl))), trivial⟩ rfl rfl rfl rfl
    ·
      (try simp only [nb, ne_eq] at hc3)
      have hk6 : k = 6 := by omega
      subst hk6
      refine awp_exit ?_
      change Awp _ _ _ _ _
      refine awp_seq ?_
      refine awp_region 2 mixed (by kernel_rfl) ?_
      refine rg_q (q_move (x := .rs _) rfl) ?_
      refine rg_q (q_assign (x := .rs _) rfl) ?_
      refine rg_nil ?_
      refine aops_nil ?_
      change Awp _ _ _ _ _
      refine awp_ret ?_
      refine ⟨_, (.cons (.tmp (by exact .rs rfl)) .nil), ?_⟩
      rfl

theorem q_mem {a : Int} (h : a ∈ qL) : ∃ k : Nat, k < 6 ∧ a = (k : Int) := by
  simp only [qL, List.mem_cons, List.not_mem_nil, or_false] at h
  rcases h with rfl | rfl | rfl | rfl | rfl | rfl
  · exact ⟨0, by decide, rfl⟩
  · exact ⟨1, by decide, rfl⟩
  · exact ⟨2, by decide, rfl⟩
  · exact ⟨3, by decide, rfl⟩
  · exact ⟨4, by decide, rfl⟩
  · exact ⟨5, by decide, rfl⟩
theorem setOf_hf (m : Mk) (r : Rw) : ∀ a ∈ qL, PC Tryd.prog 48 (.v (.int .i64 a) :: [.pt (mkC m) 0, .pt (rwC r) 0]) (.v (.bool (!hasQ r.bx m a.toNat))) := fun a ha => by
  obtain ⟨k, hk, rfl⟩ := q_mem ha
  exact setOf1_p m r k hk
set_option maxRecDepth 100000 in
theorem setOf_p (l : List Rw) (m : Mk) (hl : l.length ≤ 60) : PC Tryd.prog 29 [.sl 13 (l.map rwC), .agg (mkC m)] (.v (.int .u64 ((sOf l m : Nat) : Int))) := by
  refine pc_of_awpN Tryd.func29 rfl Tryd.ntmps29 (rs := [.tmp 4]) Tryd.results29 (by simp) fun w0 hmine hrnd hpn => ?_
  refine awp_seq ?_
  refine awp_region 2 mixed (by kernel_rfl) ?_
  refine rg_q (q_box rfl (by exact .inr ⟨_, rfl⟩)) ?_
  refine rg_q (q_assign (x := .d (.v _)) rfl) ?_
  refine rg_nil ?_
  refine aops_nil ?_
  change Awp _ _ _ _ _
  refine awp_seq ?_
  refine awp_region 1 mixed (by kernel_rfl) ?_
  refine rg_q (q_assign (x := .d (.v _)) rfl) ?_
  refine rg_nil ?_
  refine aops_nil ?_
  change Awp _ _ _ _ _
  refine awp_seq ?_
  refine awp_seq ?_
  refine awp_region 3 mixed (by kernel_rfl) ?_
  refine rg_q (q_move (x := .d (.sl _ _)) rfl) ?_
  refine rg_q (q_len isl68 rfl (by exact len_map _ _)) ?_
  refine rg_q (q_move (x := .d (.v _)) rfl) ?_
  refine rg_nil ?_
  refine aops_nil ?_
  change Awp _ _ _ _ _
  refine awp_len (t := 8) rfl (fun hl8 => ?_)
  (try simp only [List.length_map] at hl8)
  refine awp_block ?_
  refine awp_loopH [5, 6, 7, 10, 11, 12, 13, 14, 15, 16, 17, 18, 19, 20, 21, 22, 23] [] (α := Nat) (fun k => [(10, T.i (k : Int)), (5, .d (.v (.int .u64 ((sOfK l m k : Nat) : Int))))]) (fun k => []) (fun k => k ≤ l.length) (fun k => l.length - k) 0 (Nat.zero_le _) ?_ ?_
  · exact le_head (ms := []) (by repeat (exact Out.refl _)) ⟨(by rfl), (by rfl), trivial⟩ trivial rfl rfl rfl rfl
  ·
    intro k hk
    refine awp_seq ?_
    refine awp_region 1 mixed (by kernel_rfl) ?_
    refine rg_q (q_lss rfl rfl) ?_
    refine rg_nil ?_
    refine aops_nil ?_
    change Awp _ _ _ _ _
    refine awp_seq ?_
    refine awp_cond rfl (fun hc3 => ?_) (fun hc3 => ?_)
    ·
      (try simp only [nb, ne_eq] at hc3)
      have hlt : k < l.length := by (try simp only [List.length_map] at hc3); omega
      obtain ⟨r, hx⟩ : ∃ r, l[k]? = some r := ⟨_, List.getElem?_eq_getElem hlt⟩
      have hu : sOfK l m (k + 1) = if hasB r.bx m = true then sOfK l m k ||| 2 ^ k else sOfK l m k := by rw [sOfK, hx]
      have hb1 : sOfK l m k < 2 ^ 64 := Nat.lt_of_lt_of_le (sOfK_lt l m k) (Nat.pow_le_pow_right (by decide) (by omega))
      have hb2 : 2 ^ k < 2 ^ 64 := Nat.pow_lt_pow_right (by decide) (by omega)
      refine awp_skip ?_
      change Awp _ _ _ _ _
      refine awp_seq ?_
      refine awp_block ?_
      refine awp_seq ?_
      refine awp_region 3 mixed (by kernel_rfl) ?_
      refine rg_q (q_move (x := .d (.v _)) rfl) ?_
      refine rg_q (q_indexAddr sl68 rfl rfl (by omega) (map_at (by omega) hx)) ?_
      refine rg_q (q_loadA sz43 rfl rfl rfl) ?_
      refine rg_nil ?_
      refine aops_alloc zr43 rfl rfl rfl ?_
      refine aops_q rfl (q_assign (x := .d (.v _)) rfl) ?_
      refine aops_store sz43 rfl rfl (by exact .inr ⟨_, rfl⟩) rfl rfl (by decide) rfl ?_
      refine aops_nil ?_
      change Awp _ _ _ _ _
      refine awp_seq ?_
      refine Awp.le (le_freeze 7 7 0 (cs := rwC r) rfl rfl rfl rfl hmine) ?_
      refine awp_region 4 mixed (by kernel_rfl) ?_
      refine rg_q (q_call en47 .nil rfl (quants_p)) ?_
      refine rg_q (q_makeFunc (.cons rfl (.cons rfl .nil))) ?_
      refine rg_q (q_call en46 (.cons rfl (.cons rfl .nil)) rfl (containsInt_p (fun q => !hasQ r.bx m q.toNat) 48 [.pt (mkC m) 0, .pt (rwC r) 0] en48 qL (setOf_hf m r))) ?_
      refine rg_q (q_not rfl) ?_
      refine rg_nil ?_
      refine aops_nil ?_
      change Awp _ _ _ _ _
      refine awp_cond rfl (fun hc5 => ?_) (fun hc5 => ?_)
      ·
        have hh : hasB r.bx m = true := by rw [has_any]; exact hc5
        rw [if_pos hh] at hu
        refine awp_region 5 mixed (by kernel_rfl) ?_
        refine rg_q (q_move (x := .d (.v _)) rfl) ?_
        refine rg_q (q_move (x := .d (.v _)) rfl) ?_
        refine rg_q (q_shlN rfl rfl (by omega)) ?_
        refine rg_q (q_orN rfl rfl hb1 hb2) ?_
        refine rg_q (q_assign (x := .d (.v _)) rfl) ?_
        refine rg_nil ?_
        refine aops_nil ?_
        change Awp _ _ _ _ _
        refine awp_region 2 mixed (by kernel_rfl) ?_
        refine rg_q (q_add rfl rfl (In64.mk (by omega) (by omega))) ?_
        refine rg_q (q_move (x := .d (.v _)) rfl) ?_
        refine rg_nil ?_
        refine aops_nil ?_
        refine ⟨k + 1, by omega, by omega, ?_⟩
        exact le_head (ms := []) (by repeat (first | exact Out.head rfl rfl | (refine Out.put ?_ rfl) | (refine Out.site ?_ rfl) | (refine Out.headIn ?_ rfl rfl rfl))) ⟨(by rfl), (by ((show T.d _ = T.d _; rw [hu]))), trivial⟩ trivial rfl rfl rfl rfl
      ·
        have hh : ¬ hasB r.bx m = true := by rw [has_any, hc5]; decide
        rw [if_neg hh] at hu
        refine awp_skip ?_
        change Awp _ _ _ _ _
        refine awp_region 2 mixed (by kernel_rfl) ?_
        refine rg_q (q_add rfl rfl (In64.mk (by omega) (by omega))) ?_
        refine rg_q (q_move (x := .d (.v _)) rfl) ?_
        refine rg_nil ?_
        refine aops_nil ?_
        refine ⟨k + 1, by omega, by omega, ?_⟩
        exact le_head (ms := []) (by repeat (first | exact Out.head rfl rfl | (refine Out.put ?_ rfl) | (refine Out.site ?_ rfl) | (refine Out.headIn ?_ rfl rfl rfl))) ⟨(by rfl), (by ((show T.d _ = T.d _; rw [hu]))), trivial⟩ trivial rfl rfl rfl rfl
    ·
      (try simp only [nb, ne_eq] at hc3)
      have hkn : k = l.length := by (try simp only [List.length_map] at hc3); omega
      subst hkn
      refine awp_exit ?_
      change Awp _ _ _ _ _
      refine awp_seq ?_
      refine awp_region 2 mixed (by kernel_rfl) ?_
      refine rg_q (q_move (x := .d (.v _)) rfl) ?_
      refine rg_q (q_assign (x := .d (.v _)) rfl) ?_
      refine rg_nil ?_
      refine aops_nil ?_
      change Awp _ _ _ _ _
      refine awp_ret ?_
      refine ⟨_, (.cons (.tmp (by exact .d _)) .nil), ?_⟩
      rfl

def dcd (c : Cd) (m : Mk) : Int × Int × Int := if (decS c.all (sOf c.all m)).2 = true then ((ctz (sOf c.all m) : Int), (decS c.all (sOf c.all m)).1, 0) else (0, 0, 12)
set_option maxRecDepth 100000 in
theorem decide_p (c : Cd) (hx : c.ex.length ≤ 1000) (hr : c.ro.length ≤ 1000) (hn : c.nm.size ≤ 1000) (m : Mk) (hs : c.ex.length + c.ro.length ≤ 60) (h1 : (ckCd c).2 = 0) (h2 : ckMk m = 0) : PCG Tryd.prog GW 12 [.agg (cdC c), .agg (mkC m)] (.tup [.v (.int .i64 ((dcd c m).1)), .v (.int .i64 ((dcd c m).2.1)), .v (.int .i64 ((dcd c m).2.2))]) := by
  have hal : c.all.length = c.ex.length + c.ro.length := List.length_append
  have hsl := sOf_lt c.all m (by omega)
  have hs64 : sOf c.all m < 18446744073709551616 := by omega
  have hcz : sOf c.all m ≠ 0 → ctz (sOf c.all m) < c.all.length := fun h => ctz_lt h (sOfK_lt c.all m c.all.length) (by omega)
  refine pcg_of_awpN gw_keep Tryd.func12 rfl Tryd.ntmps12 (rs := [.tmp 4, .tmp 5, .tmp 6]) Tryd.results12 (by simp) fun w0 hmine hrnd hpn hG => ?_
  refine awp_seq ?_
  refine awp_region 5 mixed (by kernel_rfl) ?_
  refine rg_q (q_box rfl (by exact .inr ⟨_, rfl⟩)) ?_
  refine rg_q (q_box rfl (by exact .inr ⟨_, rfl⟩)) ?_
  refine rg_q (q_assign (x := .d (.v _)) rfl) ?_
  refine rg_q (q_assign (x := .d (.v _)) rfl) ?_
  refine rg_q (q_assign (x := .d (.v _)) rfl) ?_
  refine rg_nil ?_
  refine aops_nil ?_
  change Awp _ _ _ _ _
  refine awp_seq ?_
  refine awp_region 7 mixed (by kernel_rfl) ?_
  refine rg_q (q_loadA (ds := [_, _, _]) sz24 rfl rfl rfl) ?_
  refine rg_q (q_callG en27 (.cons rfl .nil) rfl hG (open_p _ (by omega) (by omega) (by omega))) ?_
  refine rg_q (q_move (x := .d (.tup _)) rfl) ?_
  refine rg_q (q_extract rfl rfl) ?_
  refine rg_q (q_extract rfl rfl) ?_
  refine rg_q (q_assign (x := .d (.sl _ _)) rfl) ?_
  refine rg_q (q_assign (x := .d (.v _)) rfl) ?_
  refine rg_nil ?_
  refine aops_nil ?_
  change Awp _ _ _ _ _
  refine awp_seq ?_
  refine awp_seq ?_
  refine awp_region 2 mixed (by kernel_rfl) ?_
  refine rg_q (q_move (x := .d (.v _)) rfl) ?_
  refine rg_q (q_eql rfl rfl) ?_
  refine rg_nil ?_
  refine aops_nil ?_
  change Awp _ _ _ _ _
  refine awp_cond rfl (fun hc2 => ?_) (fun hc2 => ?_)
  ·
    (try simp only [nb, ne_eq] at hc2)
    refine awp_region 3 mixed (by kernel_rfl) ?_
    refine rg_q (q_loadA (ds := [_, _, _, _, _, _]) sz27 rfl rfl rfl) ?_
    refine rg_q (q_callG en28 (.cons rfl .nil) rfl hG (checkMark_p _)) ?_
    refine rg_q (q_assign (x := .d (.v _)) rfl) ?_
    refine rg_nil ?_
    refine aops_nil ?_
    change Awp _ _ _ _ _
    refine awp_seq ?_
    refine awp_seq ?_
    refine awp_region 2 mixed (by kernel_rfl) ?_
    refine rg_q (q_move (x := .d (.v _)) rfl) ?_
    refine rg_q (q_neq rfl rfl) ?_
    refine rg_nil ?_
    refine aops_nil ?_
    change Awp _ _ _ _ _
    refine awp_cond rfl (fun hc4 => ?_) (fun hc4 => ?_)
    ·
      exact absurd h2 (by simpa using hc4)
    ·
      (try simp only [nb, ne_eq] at hc4)
      refine awp_skip ?_
      change Awp _ _ _ _ _
      refine awp_seq ?_
      refine awp_region 4 mixed (by kernel_rfl) ?_
      refine rg_q (q_move (x := .d (.sl _ _)) rfl) ?_
      refine rg_q (q_loadA (ds := [_, _, _, _, _, _]) sz27 rfl rfl rfl) ?_
      refine rg_q (q_call en29 (.cons rfl (.cons rfl .nil)) rfl (setOf_p c.all m (by omega))) ?_
      refine rg_q (q_assign (x := .d (.v _)) rfl) ?_
      refine rg_nil ?_
      refine aops_nil ?_
      change Awp _ _ _ _ _
      refine awp_seq ?_
      refine awp_region 8 mixed (by kernel_rfl) ?_
      refine rg_q (q_move (x := .d (.sl _ _)) rfl) ?_
      refine rg_q (q_move (x := .d (.v _)) rfl) ?_
      refine rg_q (q_callG en30 (.cons rfl (.cons rfl .nil)) rfl hG (decision_p c.all _ hs64 hcz)) ?_
      refine rg_q (q_move (x := .d (.tup _)) rfl) ?_
      refine rg_q (q_extract rfl rfl) ?_
      refine rg_q (q_extract rfl rfl) ?_
      refine rg_q (q_assign (x := .d (.v _)) rfl) ?_
      refine rg_q (q_assign (x := .d (.v _)) rfl) ?_
      refine rg_nil ?_
      refine aops_nil ?_
      change Awp _ _ _ _ _
      refine awp_seq ?_
      refine awp_seq ?_
      refine awp_region 2 mixed (by kernel_rfl) ?_
      refine rg_q (q_move (x := .d (.v _)) rfl) ?_
      refine rg_q (q_not rfl) ?_
      refine rg_nil ?_
      refine aops_nil ?_
      change Awp _ _ _ _ _
      refine awp_cond rfl (fun hc8 => ?_) (fun hc8 => ?_)
      ·
        (try simp only [nb, ne_eq] at hc8)
        have hz : dcd c m = (0, 0, 12) := if_neg (by simpa using hc8)
        refine awp_seq ?_
        refine awp_region 3 mixed (by kernel_rfl) ?_
        refine rg_q (q_assign (x := .d (.v _)) rfl) ?_
        refine rg_q (q_assign (x := .d (.v _)) rfl) ?_
        refine rg_q (q_assign (x := .d (.v _)) rfl) ?_
        refine rg_nil ?_
        refine aops_nil ?_
        change Awp _ _ _ _ _
        refine awp_ret ?_
        refine ⟨_, (.cons (.tmp (by exact .d _)) (.cons (.tmp (by exact .d _)) (.cons (.tmp (by exact .d _)) .nil))), ?_⟩
        rw [hz]; rfl
      ·
        (try simp only [nb, ne_eq] at hc8)
        have hz : dcd c m = ((ctz (sOf c.all m) : Int), (decS c.all (sOf c.all m)).1, 0) := if_pos (by simpa using hc8)
        refine awp_skip ?_
        change Awp _ _ _ _ _
        refine awp_seq ?_
        refine awp_region 6 mixed (by kernel_rfl) ?_
        refine rg_q (q_move (x := .d (.v _)) rfl) ?_
        refine rg_q (q_callG en31 (.cons rfl .nil) rfl hG (first_p _ hs64)) ?_
        refine rg_q (q_move (x := .d (.v _)) rfl) ?_
        refine rg_q (q_assign (x := .d (.v _)) rfl) ?_
        refine rg_q (q_assign (x := .d (.v _)) rfl) ?_
        refine rg_q (q_assign (x := .d (.v _)) rfl) ?_
        refine rg_nil ?_
        refine aops_nil ?_
        change Awp _ _ _ _ _
        refine awp_ret ?_
        refine ⟨_, (.cons (.tmp (by exact .d _)) (.cons (.tmp (by exact .d _)) (.cons (.tmp (by exact .d _)) .nil))), ?_⟩
        rw [hz]; rfl
  ·
    exact absurd h1 (by simpa using hc2)
end Go.Proofs.YthpggoophcdgnaaDoor.Am.M
