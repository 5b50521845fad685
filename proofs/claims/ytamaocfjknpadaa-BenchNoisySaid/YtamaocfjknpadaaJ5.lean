/- Contracts over the abstract machine, joined. Conditions: none. -/
import Derived.Test.YtamaocfjknpadaaJ4
import Derived.Test.YtamaocfjknpadaaJ3
import Derived.Test.YtamaocfjknpadaaAmF
import Derived.Test.YtamaocfjknpadaaJ1
import Derived.Test.YtamaocfjknpadaaJ2
import Derived.Test.YtamaocfjknpadaaAm52
set_option linter.unusedVariables false
set_option linter.unusedSimpArgs false
namespace Go.Proofs.Ytamaocfjknpadaa.Am.M
open Go

end Go.Proofs.Ytamaocfjknpadaa.Am.M
-- mini
namespace Go.Proofs.Ytamaocfjknpadaa.Am.M
open Go
set_option maxRecDepth 100000 in
theorem tsmall_p (n m : Int) (h1 : 0 ≤ m) (h2 : m ≤ 1000000000000) : PC Try.prog 105 [.v (.int .i64 (n)), .v (.int .i64 (m))] (.v (.bool (inR (-m) n m))) := by
 refine pc_of_awp Try.func105 rfl Try.ntmps105 (rs := [.tmp 4]) Try.results105 (by simp) fun w0 => ?_
 refine awp_seq ?_
 refine awp_region 1 mixed (by kernel_rfl) ?_
 refine rg_q (q_a rfl) ?_
 refine rs (awp_region 6 mixed (by kernel_rfl) ?_)
 refine rg_q (q_m rfl) (rg_q (q_m rfl) ?_)
 refine rg_q (q_neg rfl (In64.mk (by omega) (by omega))) ?_
 refine rg_q (q_m rfl) ?_
 refine rg_q (q_call en76 (.cons rfl (.cons rfl (.cons rfl .nil))) rfl (twithin_p _ _ _)) ?_
 refine rg_q (q_a rfl) ?_
 refine rn ?_
 change Awp _ _ _ _ _
 refine awp_ret ?_
 refine ⟨_, (.cons (.tmp (by exact .d _)) .nil), ?_⟩
 rfl

structure Whl (b : Nat) (n : Int) : Prop where
  lo : -2047 ≤ n
  hi : n ≤ 2047
  self : ordB .neq (FloatKind.f32.format.order b b) = false
  sub : floatBits .sub .f32 b b = some 0
  ge : ordB .geq (FloatKind.f32.format.order b 1266679808) = false
  le : ordB .leq (FloatKind.f32.format.order b 3414163456) = false
  int : floatToIntVal .f32 b .i64 = some n
  back : ordB .neq (FloatKind.f32.format.order (FloatKind.f32.nearest n) b) = false
def vI (b : Nat) : Int := (floatToIntVal .f32 b .i64).getD 0
theorem Whl.v {b : Nat} {n : Int} (h : Whl b n) : vI b = n := by unfold vI; rw [h.int]; rfl
theorem whl_zero : ordB .neq (FloatKind.f32.format.order 0 0) = false := f32_neq (a := 0) (f32_of (by decide) (by decide))
def WhlL (bs : List Nat) : Prop := ∀ b ∈ bs, Whl b (vI b)
set_option maxRecDepth 100000 in
theorem tsampleErr_p (b : Nat) (n : Int) (h : Whl b n) : PC Try.prog 94 [fd b] (.v (.int .i64 (0))) := by
 have h1 := h.lo
 have h2 := h.hi
 have hr : inR (-2047) n 2047 = true := by simp [inR]; omega
 refine pc_of_awp Try.func94 rfl Try.ntmps94 (rs := [.tmp 2]) Try.results94 (by simp) fun w0 => ?_
 refine awp_seq ?_
 refine awp_region 1 mixed (by kernel_rfl) ?_
 refine rg_q (q_a rfl) ?_
 refine rn ?_
 change Awp _ _ _ _ _
 refine awp_seq ?_
 refine awp_block ?_
 refine awp_seq ?_
 refine awp_region 10 mixed (by kernel_rfl) ?_
 refine rg_q (q_m rfl) (rg_q (q_m rfl) ?_)
 refine rg_q (q_fcmp (by decide) rfl rfl h.self) ?_
 refine rg_q (q_m rfl) ?_
 refine rg_g rfl rfl (fun hG => (q_m rfl)) ?_
 refine rg_g rfl rfl (fun hG => (q_m rfl)) ?_
 refine rg_g rfl rfl (fun hG => (q_fbin (by decide) rfl rfl h.sub)) ?_
 refine rg_g rfl rfl (fun hG => (q_fcmp (by decide) rfl rfl whl_zero)) ?_
 refine rg_pick rfl rfl rfl rfl rfl rfl ?_
 refine rg_q (q_a rfl) ?_
 refine rn ?_
 change Awp _ _ _ _ _
 refine awp_cond rfl (fun hc1 => ?_) (fun hc1 => ?_)
 ·
  cases hc1
 ·
  (try simp only [nb, ne_eq] at hc1)
  refine awp_seq ?_
  refine awp_region 7 mixed (by kernel_rfl) ?_
  refine rg_q (q_m rfl) ?_
  refine rg_q (q_fcmp (by decide) rfl rfl h.ge) ?_
  refine rg_q (q_m rfl) ?_
  refine rg_g rfl rfl (fun hG => (q_m rfl)) ?_
  refine rg_g rfl rfl (fun hG => (q_fcmp (by decide) rfl rfl h.le)) ?_
  refine rg_pick rfl rfl rfl rfl rfl rfl ?_
  refine rg_q (q_a rfl) ?_
  refine rn ?_
  change Awp _ _ _ _ _
  refine awp_cond rfl (fun hc3 => ?_) (fun hc3 => ?_)
  ·
   cases hc3
  ·
   (try simp only [nb, ne_eq] at hc3)
   refine awp_seq ?_
   refine awp_region 6 mixed (by kernel_rfl) ?_
   refine rg_q (q_m rfl) ?_
   refine rg_q (q_convfi flt52 int3 rfl h.int) ?_
   refine rg_q (q_convf int3 flt52 rfl) ?_
   refine rg_q (q_m rfl) ?_
   refine rg_q (q_fcmp (by decide) rfl rfl h.back) ?_
   refine rg_q (q_a rfl) ?_
   refine rn ?_
   change Awp _ _ _ _ _
   refine awp_cond rfl (fun hc5 => ?_) (fun hc5 => ?_)
   ·
    cases hc5
   ·
    (try simp only [nb, ne_eq] at hc5)
    refine awp_seq ?_
    refine awp_region 5 mixed (by kernel_rfl) ?_
    refine rg_q (q_m rfl) ?_
    refine rg_q (q_convfi flt52 int3 rfl h.int) ?_
    refine rg_q (q_call en105 (.cons rfl (.cons rfl .nil)) rfl (tsmall_p _ _ (by omega) (by omega))) ?_
    refine rg_q (q_not rfl) (rg_q (q_a rfl) ?_)
    refine rn ?_
    change Awp _ _ _ _ _
    refine awp_cond rfl (fun hc7 => ?_) (fun hc7 => ?_)
    ·
     rw [show inR (-2047) n 2047 = true from hr] at hc7
     cases hc7
    ·
     (try simp only [nb, ne_eq] at hc7)
     refine awp_skip ?_
     change Awp _ _ _ _ _
     refine awp_seq ?_
     refine awp_region 1 mixed (by kernel_rfl) ?_
     refine rg_q (q_a rfl) ?_
     refine rn ?_
     change Awp _ _ _ _ _
     refine awp_ret ?_
     refine ⟨_, (.cons (.tmp (by exact .d _)) .nil), ?_⟩
     rfl
set_option maxRecDepth 100000 in
theorem tsamplesErr_p (l : List Nat) (hb : WhlL l) : PC Try.prog 77 [.sl 1 (l.map fC)] (.tup [.v (.int .i64 (0)), .v (.int .i64 (0))]) := by
 refine pc_of_awp Try.func77 rfl Try.ntmps77 (rs := [.tmp 2, .tmp 3]) Try.results77 (by simp) fun w0 => ?_
 refine awp_seq ?_
 refine awp_region 2 mixed (by kernel_rfl) ?_
 refine rg_q (q_a rfl) (rg_q (q_a rfl) ?_)
 refine rn ?_
 change Awp _ _ _ _ _
 refine awp_seq ?_
 refine awp_seq ?_
 refine awp_region 3 mixed (by kernel_rfl) ?_
 refine rg_q (q_move (x := .d (.sl _ _)) rfl) ?_
 refine rg_q (q_len isl64 rfl (by exact len_map _ _)) ?_
 refine rg_q (q_m rfl) ?_
 refine rn ?_
 change Awp _ _ _ _ _
 refine awp_len (t := 7) rfl (fun hl7 => ?_)
 (try simp only [List.length_map] at hl7)
 refine awp_block ?_
 refine awp_loopH [2, 3, 4, 5, 6, 9, 10, 11, 12, 13, 14, 15, 16, 17, 18, 19, 20] [] (α := Nat) (fun k => [(9, T.i (k : Int))]) (fun k => []) (fun k => k ≤ l.length) (fun k => l.length - k) 0 (Nat.zero_le _) ?_ ?_
 · exact le_head (ms := []) (by repeat (exact Out.refl _)) ⟨(by rfl), trivial⟩ trivial rfl rfl rfl rfl
 ·
  intro k hk
  refine awp_seq ?_
  refine awp_region 1 mixed (by kernel_rfl) ?_
  refine rg_q (q_lss rfl rfl) ?_
  refine rn ?_
  change Awp _ _ _ _ _
  refine awp_seq ?_
  refine awp_cond rfl (fun hc2 => ?_) (fun hc2 => ?_)
  ·
   (try simp only [nb, ne_eq] at hc2)
   have hlt : k < l.length := by omega
   obtain ⟨x, hx⟩ : ∃ x, l[k]? = some x := ⟨_, List.getElem?_eq_getElem hlt⟩
   have hx1 := hb x (List.mem_of_getElem? hx)
   refine awp_skip ?_
   change Awp _ _ _ _ _
   refine awp_seq ?_
   refine awp_block ?_
   refine awp_seq ?_
   refine awp_region 5 mixed (by kernel_rfl) ?_
   refine rg_q (q_m rfl) ?_
   refine rg_q (q_indexAddr sl64 rfl rfl (by omega) (map_at (by omega) hx)) ?_
   refine rg_q (q_load sz52 rfl rfl) (rg_q (q_a rfl) (rg_q (q_a rfl) ?_))
   refine rs (awp_region 3 mixed (by kernel_rfl) ?_)
   refine rg_q (q_m rfl) ?_
   refine rg_q (q_call en94 (.cons rfl .nil) rfl (tsampleErr_p _ _ (by assumption))) ?_
   refine rg_q (q_a rfl) ?_
   refine rs (awp_region 2 mixed (by kernel_rfl) ?_)
   refine rg_q (q_m rfl) (rg_q (q_neq rfl rfl) ?_)
   refine rn ?_
   change Awp _ _ _ _ _
   refine awp_cond rfl (fun hc5 => ?_) (fun hc5 => ?_)
   ·
    simp at hc5
   ·
    (try simp only [nb, ne_eq] at hc5)
    refine awp_skip ?_
    change Awp _ _ _ _ _
    refine awp_region 2 mixed (by kernel_rfl) ?_
    refine rg_q (q_add rfl rfl (In64.mk (by omega) (by omega))) ?_
    refine rg_q (q_m rfl) ?_
    refine rn ?_
    refine ⟨k + 1, by omega, by omega, ?_⟩
    exact le_head (ms := []) (by repeat (first | exact Out.head rfl rfl | (refine Out.put ?_ rfl))) ⟨(by rfl), trivial⟩ trivial rfl rfl rfl rfl
  ·
   (try simp only [nb, ne_eq] at hc2)
   refine awp_exit ?_
   change Awp _ _ _ _ _
   refine awp_seq ?_
   refine awp_region 2 mixed (by kernel_rfl) ?_
   refine rg_q (q_a rfl) (rg_q (q_a rfl) ?_)
   refine rn ?_
   change Awp _ _ _ _ _
   refine awp_ret ?_
   refine ⟨_, (.cons (.tmp (by exact .d _)) (.cons (.tmp (by exact .d _)) .nil)), ?_⟩
   rfl
set_option maxRecDepth 100000 in
theorem checkMatrix_p (ne : Int) (l : List Nat) (h1 : 1 ≤ ne) (h2 : ne ≤ 16) (hl : (l.length : Int) = ne * ne * 64) (hb : WhlL l) : PC Try.prog 52 [.agg [.v (.int .i64 (ne)), .sl 1 (l.map fC)]] (.tup [.v (.int .i64 (0)), .v (.int .i64 (0))]) := by
 have hm := mulb (a := ne) (b := ne) (A := 16) (B := 16) (by omega) (by omega) (by omega) (by omega)
 refine pc_of_awp Try.func52 rfl Try.ntmps52 (rs := [.tmp 2, .tmp 3]) Try.results52 (by simp) fun w0 => ?_
 refine awp_seq ?_
 refine awp_region 3 mixed (by kernel_rfl) ?_
 refine rg_q (q_box rfl (by exact .inr ⟨_, rfl⟩)) ?_
 refine rg_q (q_a rfl) (rg_q (q_a rfl) ?_)
 refine rn ?_
 change Awp _ _ _ _ _
 refine awp_seq ?_
 refine awp_block ?_
 refine awp_seq ?_
 refine awp_region 5 mixed (by kernel_rfl) ?_
 refine rg_q (q_fieldAddr fld66_0 rfl) (rg_q (q_load sz3 rfl rfl) ?_)
 refine rg_q (q_call en76 (.cons rfl (.cons rfl (.cons rfl .nil))) rfl (twithin_p _ _ _)) ?_
 refine rg_q (q_not rfl) (rg_q (q_a rfl) ?_)
 refine rn ?_
 change Awp _ _ _ _ _
 refine awp_cond rfl (fun hc1 => ?_) (fun hc1 => ?_)
 ·
  simp [inR] at hc1
  omega
 ·
  (try simp only [nb, ne_eq] at hc1)
  refine awp_seq ?_
  refine awp_region 11 mixed (by kernel_rfl) ?_
  refine rg_q (q_fieldAddr fld66_1 rfl) (rg_q (q_load sz64 rfl rfl) ?_)
  refine rg_q (q_len isl64 rfl (by exact len_map _ _)) ?_
  refine rg_q (q_fieldAddr fld66_0 rfl) (rg_q (q_load sz3 rfl rfl) (rg_q (q_fieldAddr fld66_0 rfl) (rg_q (q_load sz3 rfl rfl) ?_)))
  refine rg_q (q_mul rfl rfl (In64.mk (by omega) (by omega))) ?_
  refine rg_q (q_mul rfl rfl (In64.mk (by omega) (by omega))) ?_
  refine rg_q (q_neq rfl rfl) (rg_q (q_a rfl) ?_)
  refine rn ?_
  change Awp _ _ _ _ _
  refine awp_len (t := 11) rfl (fun hl11 => ?_)
  (try simp only [List.length_map] at hl11)
  refine awp_cond rfl (fun hc3 => ?_) (fun hc3 => ?_)
  ·
   rw [decide_eq_true_eq] at hc3
   exact absurd hl hc3
  ·
   (try simp only [nb, ne_eq] at hc3)
   refine awp_skip ?_
   change Awp _ _ _ _ _
   refine awp_seq ?_
   refine awp_region 7 mixed (by kernel_rfl) ?_
   refine rg_q (q_fieldAddr fld66_1 rfl) (rg_q (q_load sz64 rfl rfl) ?_)
   refine rg_q (q_call en77 (.cons rfl .nil) rfl (tsamplesErr_p l hb)) ?_
   refine rg_q (q_extract rfl rfl) (rg_q (q_extract rfl rfl) (rg_q (q_a rfl) (rg_q (q_a rfl) ?_)))
   refine rn ?_
   change Awp _ _ _ _ _
   refine awp_ret ?_
   refine ⟨_, (.cons (.tmp (by exact .d _)) (.cons (.tmp (by exact .d _)) .nil)), ?_⟩
   rfl

def outN (S : List Int) (k : Nat) : List D := (S.take k).map iv ++ List.replicate (64 - k) (iv 0)
theorem outN_len {S : List Int} {k : Nat} (hS : S.length = 64) (hk : k ≤ 64) : (outN S k).length = 64 := by unfold outN; rw [List.length_append, List.length_map, List.length_take, List.length_replicate]; omega
theorem outN_set {S : List Int} {k : Nat} {x : Int} (hS : S.length = 64) (h : S[k]? = some x) : setCs (outN S k) (0 + (k : Int).toNat * 1) [iv x] = outN S (k + 1) := by
  obtain ⟨hlt, hx⟩ := List.getElem?_eq_some_iff.1 h
  have hl : ((S.take k).map iv).length = k := by rw [List.length_map, List.length_take]; omega
  rw [Int.toNat_natCast, Nat.zero_add, Nat.mul_one, setCs_one (by rw [outN_len hS (by omega)]; omega)]
  unfold outN
  rw [List.set_append_right _ _ (by omega), hl, Nat.sub_self, show 64 - k = (64 - (k + 1)) + 1 by omega, List.replicate_succ, List.set_cons_zero, List.take_succ_eq_append_getElem hlt, hx, List.map_append, List.append_assoc]
  rfl
theorem outN_all {S : List Int} (hS : S.length = 64) : outN S 64 = S.map iv := by
  unfold outN
  rw [List.take_of_length_le (by omega)]; simp
end Go.Proofs.Ytamaocfjknpadaa.Am.M
namespace Go.Proofs.Ytamaocfjknpadaa.Am.M
open Go

theorem inR_iff {l h a : Int} : inR l a h = true ↔ l ≤ a ∧ a ≤ h := by unfold inR; simp
end Go.Proofs.Ytamaocfjknpadaa.Am.M
namespace Go.Proofs.Ytamaocfjknpadaa.Am.M
open Go

def mtxC (ne : Int) (bf : List Nat) : List D := [.v (.int .i64 ne), .sl 1 (bf.map fC)]
end Go.Proofs.Ytamaocfjknpadaa.Am.M
-- mini
namespace Go.Proofs.Ytamaocfjknpadaa.Am.M
open Go

def chK (l : List Nat) (i : Nat) : List Nat := (l.take (64 * i + 64)).drop (64 * i)
def chF (l : List Nat) (i : Nat) : List (List Nat) := (List.range i).map (chK l)
def encK (b : List Nat) : List D := [.sl 1 (b.map fC)]
theorem chF_succ (l : List Nat) (i : Nat) : chF l (i + 1) = chF l i ++ [chK l i] := by unfold chF; rw [List.range_succ, List.map_append]; rfl
theorem chF_pre {l : List Nat} {i : Nat} : ∀ {m : Nat}, i ≤ m → chF l i <+: chF l m
  | 0, h => by have : i = 0 := by omega
               subst this; exact List.prefix_rfl
  | m + 1, h => by
    by_cases e : i = m + 1
    · subst e; exact List.prefix_rfl
    · rw [chF_succ]; exact (chF_pre (show i ≤ m by omega)).trans (List.prefix_append _ _)
theorem chK_len {l : List Nat} {i m : Nat} (h : l.length = 64 * m) (hi : i < m) : (chK l i).length = 64 := by
  unfold chK
  rw [List.length_drop, List.length_take]; omega
theorem chK_row (l : List Nat) (i : Nat) : ((l.map fC).take (64 * i + 64)).drop (64 * i) = (chK l i).map fC := by unfold chK; rw [List.map_drop, List.map_take]
set_option maxRecDepth 100000 in
theorem chunk_i (l : List Nat) (m : Nat) (h1 : l.length = 64 * m) (h2 : m ≤ 10000) : PI Try.prog 78 [] [.pt [.sl 1 (l.map fC)] 0, .pt [.v (.int .i64 (64))] 0] (encK) (chF l m) true := by
  refine pi_of_iwp Try.func78 rfl Try.ntmps78 rfl rfl fun J c l0 hJ hy hdat hfin => ?_
  refine iwp_seq ?_
  apply iwp_reg hJ
  ·
    intro c1 hmine hrnd
    refine awp_region 1 mixed (by kernel_rfl) ?_
    refine rg_q (q_a rfl) ?_
    refine rn ?_
    exact ⟨rfl, rfl⟩
  change Iwp _ _ _ _ _ _ _
  refine iwp_block ?_
  refine iwp_loopH [4, 5, 6, 7, 8, 9, 10, 11, 12, 13, 14, 15, 16, 17, 18, 19, 20, 21, 22, 23, 24, 25, 26, 27, 28, 29, 30] [] (β := Nat) (fun i => [(4, T.i ((64 * i : Nat) : Int))]) (fun i => []) (fun i => (true, chF l i)) (fun i => i ≤ m) (fun i => m - i) 0 (Nat.zero_le _) rfl (fun c1 => ?_) ?_
  · exact le_head (ms := []) (by repeat (exact Out.refl _)) ⟨(by rfl), trivial⟩ trivial rfl rfl rfl rfl
  ·
    intro i hi
    refine iwp_seq ?_
    refine iwp_seq ?_
    apply iwp_reg hJ
    ·
      intro c1 hmine hrnd
      refine awp_region 4 mixed (by kernel_rfl) ?_
      refine rg_q (q_m rfl) (rg_q (q_load sz64 rfl rfl) ?_)
      refine rg_q (q_len isl64 rfl (by exact len_map _ _)) ?_
      refine rg_q (q_lss rfl rfl) ?_
      refine rn ?_
      exact ⟨rfl, rfl⟩
    change Iwp _ _ _ _ _ _ _
    refine iwp_len (t := 7) rfl (fun hl7 => ?_)
    (try simp only [List.length_map] at hl7)
    refine iwp_cond rfl (fun hc1 => ?_) (fun hc1 => ?_)
    ·
      (try simp only [nb, ne_eq] at hc1)
      have hlt : i < m := by omega
      have hpre : chF l i ++ [chK l i] <+: chF l m := by rw [← chF_succ]; exact chF_pre hlt
      have hmn : min (64 : Int) ((List.drop (64 * i) (List.take (l.map fC).length l)).length : Int) = 64 := by rw [List.length_map, List.take_length, List.length_drop]; omega
      have hpl : ((64 * i : Nat) : Int) + 64 = ((64 * i + 64 : Nat) : Int) := by omega
      refine iwp_skip ?_
      change Iwp _ _ _ _ _ _ _
      refine iwp_seq ?_
      refine iwp_block ?_
      refine iwp_seq ?_
      apply iwp_reg hJ
      ·
        intro c1 hmine hrnd
        refine awp_region 7 mixed (by kernel_rfl) ?_
        refine rg_q (q_load sz3 rfl rfl) (rg_q (q_load sz64 rfl rfl) (rg_q (q_m rfl) ?_))
        refine rg_q (q_slice sl64 rfl rfl rfl (by rw [List.length_map]; omega) (Nat.le_refl _) (by exact map_slice _ _ _ _)) ?_
        refine rg_q (q_len isl64 rfl (by exact len_map _ _)) ?_
        refine rg_q (q_min rfl rfl) ?_
        refine rg_q (q_a rfl) ?_
        refine rn ?_
        exact ⟨rfl, rfl⟩
      change Iwp _ _ _ _ _ _ _
      refine iwp_len (t := 16) rfl (fun hl16 => ?_)
      (try simp only [List.length_map] at hl16)
      refine iwp_seq ?_
      rw [hmn]
      refine iwp_region ?_
      refine iops_of hJ rfl (fun c1 _ _ _ h => by exact aops_q rfl ((q_move (x := .d (.fn _ _)) rfl)) h) ?_
      refine iops_of hJ rfl (fun c1 _ _ _ h => by exact aops_q rfl ((q_load sz64 rfl rfl)) h) ?_
      refine iops_of hJ rfl (fun c1 _ _ _ h => by exact aops_q rfl ((q_m rfl)) h) ?_
      refine iops_of hJ rfl (fun c1 _ _ _ h => by exact aops_q rfl ((q_m rfl)) h) ?_
      refine iops_of hJ rfl (fun c1 _ _ _ h => by exact aops_q rfl ((q_m rfl)) h) ?_
      refine iops_of hJ rfl (fun c1 _ _ _ h => by exact aops_q rfl ((q_add rfl rfl (In64.mk (by omega) (by omega)))) h) ?_
      refine iops_of hJ rfl (fun c1 _ _ _ h => by exact aops_q rfl ((q_m rfl)) h) ?_
      refine iops_of hJ rfl (fun c1 _ _ _ h => by exact aops_q rfl ((q_m rfl)) h) ?_
      refine iops_of hJ rfl (fun c1 _ _ _ h => by exact aops_q rfl ((q_add rfl rfl (In64.mk (by omega) (by omega)))) h) ?_
      rw [hpl]
      refine iops_of hJ rfl (fun c1 _ _ _ h => by exact aops_q rfl ((q_slice3d (lo := 64 * i) (hi := 64 * i + 64) (es' := (chK l i).map fC) sl64 rfl rfl rfl rfl (by omega) (by rw [List.length_map]; omega) (chK_row l i))) h) ?_
      refine iops_yield (x := (chK l i)) hy hdat rfl (.cons rfl .nil) hpre rfl (fun yb => ?_)
      refine iops_of hJ rfl (fun c1 _ _ _ h => by exact aops_q rfl ((q_not rfl)) h) ?_
      refine iops_nil ?_
      change Iwp _ _ _ _ _ _ _
      refine iwp_cond rfl (fun hc4 => ?_) (fun hc4 => ?_)
      ·
        (try simp only [nb, ne_eq] at hc4)
        have hyb : yb = false := by cases yb <;> first | rfl | (exfalso; simp_all; done)
        refine iwp_ret ?_
        exact ⟨.inl rfl, fun h => by rw [hyb] at h; cases h⟩
      ·
        (try simp only [nb, ne_eq] at hc4)
        have hyb : yb = true := by cases yb <;> first | rfl | (exfalso; simp_all; done)
        refine iwp_skip ?_
        change Iwp _ _ _ _ _ _ _
        apply iwp_reg hJ
        ·
          intro c1 hmine hrnd
          refine awp_region 4 mixed (by kernel_rfl) ?_
          refine rg_q (q_m rfl) (rg_q (q_load sz3 rfl rfl) ?_)
          refine rg_q (q_add rfl rfl (In64.mk (by omega) (by omega))) ?_
          refine rg_q (q_a rfl) ?_
          refine rn ?_
          exact ⟨rfl, rfl⟩
        refine ⟨i + 1, by omega, by omega, by rw [hyb, chF_succ], fun c1 => ?_⟩
        exact le_head (ms := []) (by repeat (first | exact Out.head rfl rfl | (refine Out.put ?_ rfl))) ⟨(by rfl), trivial⟩ trivial rfl rfl rfl rfl
    ·
      (try simp only [nb, ne_eq] at hc1)
      have him : i = m := by omega
      refine iwp_exit ?_
      exact ⟨.inr rfl, fun _ => by rw [him]⟩
end Go.Proofs.Ytamaocfjknpadaa.Am.M
-- mini
namespace Go.Proofs.Ytamaocfjknpadaa.Am.M
open Go
set_option maxRecDepth 100000 in
theorem chunk_p (l : List Nat) : PC Try.prog 53 [.sl 1 (l.map fC), .v (.int .i64 (64))] (.fn (.func 78) [.pt [.sl 1 (l.map fC)] 0, .pt [.v (.int .i64 (64))] 0]) := by
 refine pc_of_awp Try.func53 rfl Try.ntmps53 (rs := [.tmp 4]) Try.results53 (by simp) fun w0 => ?_
 refine awp_seq ?_
 refine awp_region 3 mixed (by kernel_rfl) ?_
 refine rg_q (q_box rfl (by exact .inl rfl)) ?_
 refine rg_q (q_box rfl (by exact .inl rfl)) ?_
 refine rg_q (q_assign (x := .d (.v .nilFunc)) rfl) ?_
 refine rn ?_
 change Awp _ _ _ _ _
 refine awp_seq ?_
 refine awp_seq ?_
 refine awp_region 2 mixed (by kernel_rfl) ?_
 refine rg_q (q_load sz3 rfl rfl) (rg_q (q_lss rfl rfl) ?_)
 refine rn ?_
 change Awp _ _ _ _ _
 refine awp_cond rfl (fun hc1 => ?_) (fun hc1 => ?_)
 ·
  cases hc1
 ·
  (try simp only [nb, ne_eq] at hc1)
  refine awp_skip ?_
  change Awp _ _ _ _ _
  refine awp_seq ?_
  refine awp_region 2 mixed (by kernel_rfl) ?_
  refine rg_q (q_makeFunc (.cons rfl (.cons rfl .nil))) ?_
  refine rg_q (q_assign (x := .d (.fn _ _)) rfl) ?_
  refine rn ?_
  change Awp _ _ _ _ _
  refine awp_ret ?_
  refine ⟨_, (.cons (.tmp (by exact .d _)) .nil), ?_⟩
  rfl

theorem chF_at {l : List Nat} {m k : Nat} {y : List Nat} (h : (chF l m)[k]? = some y) : k < m ∧ y = chK l k := by
  unfold chF at h
  rw [List.getElem?_map] at h
  cases hr : (List.range m)[k]? with
  | none => rw [hr] at h; cases h
  | some j =>
    rw [hr] at h
    obtain ⟨h1, h2⟩ := List.getElem?_eq_some_iff.1 hr
    rw [List.length_range] at h1
    rw [List.getElem_range] at h2
    subst h2
    cases h
    exact ⟨h1, rfl⟩
end Go.Proofs.Ytamaocfjknpadaa.Am.M
namespace Go.Proofs.Ytamaocfjknpadaa.Am.M
open Go

end Go.Proofs.Ytamaocfjknpadaa.Am.M
namespace Go.Proofs.Ytamaocfjknpadaa.Am.M
open Go

end Go.Proofs.Ytamaocfjknpadaa.Am.M
namespace Go.Proofs.Ytamaocfjknpadaa.Am.M
open Go

end Go.Proofs.Ytamaocfjknpadaa.Am.M
namespace Go.Proofs.Ytamaocfjknpadaa.Am.M
open Go

end Go.Proofs.Ytamaocfjknpadaa.Am.M
namespace Go.Proofs.Ytamaocfjknpadaa.Am.M
open Go

end Go.Proofs.Ytamaocfjknpadaa.Am.M
namespace Go.Proofs.Ytamaocfjknpadaa.Am.M
open Go

end Go.Proofs.Ytamaocfjknpadaa.Am.M
namespace Go.Proofs.Ytamaocfjknpadaa.Am.M
open Go

end Go.Proofs.Ytamaocfjknpadaa.Am.M
namespace Go.Proofs.Ytamaocfjknpadaa.Am.M
open Go

end Go.Proofs.Ytamaocfjknpadaa.Am.M
namespace Go.Proofs.Ytamaocfjknpadaa.Am.M
open Go

end Go.Proofs.Ytamaocfjknpadaa.Am.M
namespace Go.Proofs.Ytamaocfjknpadaa.Am.M
open Go
end Go.Proofs.Ytamaocfjknpadaa.Am.M
namespace Go.Proofs.Ytamaocfjknpadaa.Am.M
open Go

end Go.Proofs.Ytamaocfjknpadaa.Am.M
-- mini
namespace Go.Proofs.Ytamaocfjknpadaa.Am.M
open Go

def sEr (c1 c2 c3 : Bool) (n : Int) : Int := if (c1 || c2) = true then 2 else if c3 = true then 25 else if inR (-2047) n 2047 = true then 0 else 2
set_option maxRecDepth 100000 in
theorem tsampleBad_p (b : Nat) (h : floatBits .sub .f32 b b = none) : PC Try.prog 94 [fd b] (.v (.int .i64 (25))) := by
 refine pc_of_awp Try.func94 rfl Try.ntmps94 (rs := [.tmp 2]) Try.results94 (by simp) fun w0 => ?_
 refine awp_seq ?_
 refine awp_region 1 mixed (by kernel_rfl) ?_
 refine rg_q (q_a rfl) ?_
 refine rn ?_
 change Awp _ _ _ _ _
 refine awp_seq ?_
 refine awp_block ?_
 refine awp_seq ?_
 refine awp_region 10 mixed (by kernel_rfl) ?_
 refine rg_q (q_m rfl) (rg_q (q_m rfl) ?_)
 refine rg_q (q_fcmp (by decide) rfl rfl rfl) ?_
 refine rg_q (q_m rfl) ?_
 refine rg_g rfl rfl (fun hG => (q_m rfl)) ?_
 refine rg_g rfl rfl (fun hG => (q_m rfl)) ?_
 refine rg_g rfl rfl (fun hG => (q_farN (by decide) rfl rfl h)) ?_
 refine rg_g rfl rfl (fun hG => (q_fcmpN (by decide) rfl rfl rfl)) ?_
 refine rg_pick rfl rfl rfl rfl rfl rfl ?_
 refine rg_q (q_a rfl) ?_
 refine rn ?_
 change Awp _ _ _ _ _
 refine awp_cond rfl (fun hc1 => ?_) (fun hc1 => ?_)
 ·
  (try simp only [nb, ne_eq] at hc1)
  refine awp_seq ?_
  refine awp_region 1 mixed (by kernel_rfl) ?_
  refine rg_q (q_a rfl) ?_
  refine rn ?_
  change Awp _ _ _ _ _
  refine awp_ret ?_
  refine ⟨_, (.cons (.tmp (by exact .d _)) .nil), ?_⟩
  rfl
 ·
  rw [show ordB .neq none = true from rfl] at hc1
  simp [bif_or] at hc1
set_option maxRecDepth 100000 in
theorem tsampleNum_p (b : Nat) (c1 c2 c3 : Bool) (n : Int) (hs : floatBits .sub .f32 b b = some 0) (h0 : ordB .neq (FloatKind.f32.format.order b b) = false) (h1 : ordB .geq (FloatKind.f32.format.order b 1266679808) = c1) (h2 : ordB .leq (FloatKind.f32.format.order b 3414163456) = c2) (h3 : (c1 || c2) = false → floatToIntVal .f32 b .i64 = some n ∧ ordB .neq (FloatKind.f32.format.order (FloatKind.f32.nearest n) b) = c3) : PC Try.prog 94 [fd b] (.v (.int .i64 (sEr c1 c2 c3 n))) := by
 refine pc_of_awp Try.func94 rfl Try.ntmps94 (rs := [.tmp 2]) Try.results94 (by simp) fun w0 => ?_
 refine awp_seq ?_
 refine awp_region 1 mixed (by kernel_rfl) ?_
 refine rg_q (q_a rfl) ?_
 refine rn ?_
 change Awp _ _ _ _ _
 refine awp_seq ?_
 refine awp_block ?_
 refine awp_seq ?_
 refine awp_region 10 mixed (by kernel_rfl) ?_
 refine rg_q (q_m rfl) (rg_q (q_m rfl) ?_)
 refine rg_q (q_fcmp (by decide) rfl rfl h0) ?_
 refine rg_q (q_m rfl) ?_
 refine rg_g rfl rfl (fun hG => (q_m rfl)) ?_
 refine rg_g rfl rfl (fun hG => (q_m rfl)) ?_
 refine rg_g rfl rfl (fun hG => (q_fbin (by decide) rfl rfl hs)) ?_
 refine rg_g rfl rfl (fun hG => (q_fcmp (by decide) rfl rfl whl_zero)) ?_
 refine rg_pick rfl rfl rfl rfl rfl rfl ?_
 refine rg_q (q_a rfl) ?_
 refine rn ?_
 change Awp _ _ _ _ _
 refine awp_cond rfl (fun hc1 => ?_) (fun hc1 => ?_)
 ·
  cases hc1
 ·
  (try simp only [nb, ne_eq] at hc1)
  refine awp_seq ?_
  refine awp_region 7 mixed (by kernel_rfl) ?_
  refine rg_q (q_m rfl) ?_
  refine rg_q (q_fcmp (by decide) rfl rfl h1) ?_
  refine rg_q (q_m rfl) ?_
  refine rg_g rfl rfl (fun hG => (q_m rfl)) ?_
  refine rg_g rfl rfl (fun hG => (q_fcmp (by decide) rfl rfl h2)) ?_
  refine rg_pick rfl rfl rfl rfl rfl rfl ?_
  refine rg_q (q_a rfl) ?_
  refine rn ?_
  change Awp _ _ _ _ _
  refine awp_cond rfl (fun hc3 => ?_) (fun hc3 => ?_)
  ·
   (try simp only [nb, ne_eq] at hc3)
   have hq : (c1 || c2) = true := by simpa using hc3
   have hz : sEr c1 c2 c3 n = 2 := by unfold sEr; rw [if_pos hq]
   rw [hz]
   refine awp_seq ?_
   refine awp_region 1 mixed (by kernel_rfl) ?_
   refine rg_q (q_a rfl) ?_
   refine rn ?_
   change Awp _ _ _ _ _
   refine awp_ret ?_
   refine ⟨_, (.cons (.tmp (by exact .d _)) .nil), ?_⟩
   rfl
  ·
   (try simp only [nb, ne_eq] at hc3)
   have hq : (c1 || c2) = false := by simpa using hc3
   obtain ⟨hi, hb⟩ := h3 hq
   refine awp_seq ?_
   refine awp_region 6 mixed (by kernel_rfl) ?_
   refine rg_q (q_m rfl) ?_
   refine rg_q (q_convfi flt52 int3 rfl hi) ?_
   refine rg_q (q_convf int3 flt52 rfl) ?_
   refine rg_q (q_m rfl) ?_
   refine rg_q (q_fcmp (by decide) rfl rfl hb) ?_
   refine rg_q (q_a rfl) ?_
   refine rn ?_
   change Awp _ _ _ _ _
   refine awp_cond rfl (fun hc5 => ?_) (fun hc5 => ?_)
   ·
    (try simp only [nb, ne_eq] at hc5)
    have hz : sEr c1 c2 c3 n = 25 := by unfold sEr; rw [if_neg (by rw [hq]; decide), if_pos hc5]
    rw [hz]
    refine awp_seq ?_
    refine awp_region 1 mixed (by kernel_rfl) ?_
    refine rg_q (q_a rfl) ?_
    refine rn ?_
    change Awp _ _ _ _ _
    refine awp_ret ?_
    refine ⟨_, (.cons (.tmp (by exact .d _)) .nil), ?_⟩
    rfl
   ·
    (try simp only [nb, ne_eq] at hc5)
    refine awp_seq ?_
    refine awp_region 5 mixed (by kernel_rfl) ?_
    refine rg_q (q_m rfl) ?_
    refine rg_q (q_convfi flt52 int3 rfl hi) ?_
    refine rg_q (q_call en105 (.cons rfl (.cons rfl .nil)) rfl (tsmall_p _ _ (by omega) (by omega))) ?_
    refine rg_q (q_not rfl) (rg_q (q_a rfl) ?_)
    refine rn ?_
    change Awp _ _ _ _ _
    refine awp_cond rfl (fun hc7 => ?_) (fun hc7 => ?_)
    ·
     (try simp only [nb, ne_eq] at hc7)
     have hz : sEr c1 c2 c3 n = 2 := by unfold sEr; rw [if_neg (by rw [hq]; decide), if_neg (by rw [hc5]; decide), if_neg (by simpa using hc7)]
     rw [hz]
     refine awp_seq ?_
     refine awp_region 1 mixed (by kernel_rfl) ?_
     refine rg_q (q_a rfl) ?_
     refine rn ?_
     change Awp _ _ _ _ _
     refine awp_ret ?_
     refine ⟨_, (.cons (.tmp (by exact .d _)) .nil), ?_⟩
     rfl
    ·
     (try simp only [nb, ne_eq] at hc7)
     have hz : sEr c1 c2 c3 n = 0 := by unfold sEr; rw [if_neg (by rw [hq]; decide), if_neg (by rw [hc5]; decide), if_pos (by simpa using hc7)]
     rw [hz]
     refine awp_skip ?_
     change Awp _ _ _ _ _
     refine awp_seq ?_
     refine awp_region 1 mixed (by kernel_rfl) ?_
     refine rg_q (q_a rfl) ?_
     refine rn ?_
     change Awp _ _ _ _ _
     refine awp_ret ?_
     refine ⟨_, (.cons (.tmp (by exact .d _)) .nil), ?_⟩
     rfl

theorem in_M {s : Bool} {N : Nat} (k : Nat) : (-(k : Int) ≤ sgI s N ∧ sgI s N ≤ (k : Int)) ↔ N ≤ k := by unfold sgI; cases s <;> simp <;> omega
theorem sg_le {s : Bool} {M : Nat} (K : Nat) (hM : ¬ K ≤ M) : decide (sgI false K ≤ sgI s M) = false ∧ decide (sgI s M ≤ sgI true K) = false := by
  refine ⟨decide_eq_false ?_, decide_eq_false ?_⟩ <;> (unfold sgI; cases s <;> simp <;> omega)
theorem sg_ge {s : Bool} {M : Nat} (K : Nat) (hM : K ≤ M) : (decide (sgI false K ≤ sgI s M) || decide (sgI s M ≤ sgI true K)) = true := by
  rw [Bool.or_eq_true, decide_eq_true_eq, decide_eq_true_eq]
  cases s
  · left; unfold sgI; simp; omega
  · right; unfold sgI; simp; omega
theorem div_le {M k : Nat} : M / QQ ≤ k ↔ M < (k + 1) * QQ := by
  rw [← Nat.lt_succ_iff, Nat.div_lt_iff_lt_mul QQ_pos]
theorem i64_of {a : Int} (h : a.natAbs ≤ 1000000000000000000) : IntKind.i64.min ≤ a ∧ a ≤ IntKind.i64.max := by
  show (-9223372036854775808 : Int) ≤ a ∧ a ≤ 9223372036854775807
  omega
theorem int_num {k : FloatKind} {b : Nat} {s : Bool} {M : Nat} (h : Numb k.format b s M) (hM : M / QQ ≤ 1000000000000000000) : floatToIntVal k b .i64 = some (sgI s (M / QQ)) := by
  unfold floatToIntVal
  have h1 : (k.decode b).toInt .zero = some (sgI s (M / QQ)) := toInt_num h
  rw [h1]
  exact if_pos (i64_of (by rw [sg_abs]; exact hM))
theorem neq_back {f : Ieee.Format} {p L I : Nat} (h : Fm f p L I) (hL : L ≤ KK) {b : Nat} {s : Bool} {m : Nat} {e : Int} {M : Nat} (hr : f.read b = .number s m e) (hM : m * 2 ^ (e + KK).toNat = M) : ordB .neq (f.order (wd f (sgI s (M / QQ))) b) = !decide (M % QQ = 0) := by
  have := back_ord h hL hr hM
  unfold ordB
  rw [bne, this]
theorem tsampleErr5_p (b : Nat) : PC Try.prog 94 [fd b] (.v (.int .i64 (sE b))) := by
  cases hr : Ieee.single.read b with
  | nan s t =>
    have e : sE b = 25 := by unfold sE; rw [hr]
    rw [e]
    exact tsampleBad_p b (show Ieee.single.sub b b = none by unfold Ieee.Format.sub; rw [hr]; rfl)
  | infinity s =>
    have e : sE b = 25 := by unfold sE; rw [hr]
    rw [e]
    exact tsampleBad_p b (sub_inf hr)
  | number s m e =>
    obtain ⟨M, hM⟩ : ∃ M, m * 2 ^ (e + KK).toNat = M := ⟨_, rfl⟩
    have hn := num_of fmS LS hr
    rw [hM] at hn
    have e : sE b = sEM M := by unfold sE; rw [hr]; simp only [hM]
    rw [e]
    have h := tsampleNum_p b _ _ (!decide (M % QQ = 0)) (sgI s (M / QQ)) (sub_num hn) (ob_self hn) (ob_geq hn num_hi) (ob_leq hn num_lo) (fun q => ?_)
    · have e2 : sEr (decide (sgI false (16777216 * QQ) ≤ sgI s M)) (decide (sgI s M ≤ sgI true (16777216 * QQ))) (!decide (M % QQ = 0)) (sgI s (M / QQ)) = sEM M := by
        unfold sEr sEM
        by_cases h1 : 16777216 * QQ ≤ M
        · rw [if_pos (sg_ge _ h1), if_pos h1]
        · obtain ⟨h2, h3⟩ := sg_le (s := s) _ h1
          rw [h2, h3, if_neg (by decide), if_neg h1]
          by_cases h4 : M % QQ = 0
          · rw [decide_eq_true h4, if_neg (by decide), if_neg (c := M % QQ ≠ 0) (fun q => q h4)]
            have h5 : inR (-2047) (sgI s (M / QQ)) 2047 = true ↔ M / QQ ≤ 2047 := by
              rw [inR_iff]; exact in_M 2047
            have hd := Nat.div_add_mod M QQ
            rw [h4, Nat.add_zero] at hd
            by_cases h6 : M / QQ ≤ 2047
            · rw [if_pos (h5.2 h6), if_neg]
              rw [← hd, Nat.mul_comm QQ]
              have := Nat.mul_le_mul_right QQ h6
              omega
            · rw [if_neg (fun q => h6 (h5.1 q)), if_pos]
              rw [← hd, Nat.mul_comm QQ]
              exact Nat.mul_lt_mul_of_pos_right (by omega) QQ_pos
          · rw [decide_eq_false h4, if_pos (show (!false) = true from rfl), if_pos (c := M % QQ ≠ 0) h4]
      rw [e2] at h
      exact h
    · have h1 : ¬ 16777216 * QQ ≤ M := fun h1 => by rw [sg_ge _ h1] at q; cases q
      have h2 : M / QQ ≤ 16777215 := div_le.2 (by omega)
      exact ⟨int_num (k := .f32) hn (by omega), neq_back fmS LS hr hM⟩

def whD (b : Nat) : Bool :=
  match Ieee.double.read b with
  | .number _ m e => decide (m * 2 ^ (e + KK).toNat % QQ = 0)
  | _ => false
theorem rd_hi16 : Ieee.double.read 4846369599423283200 = .number false 5000000000000000 1 := by decide +kernel
theorem rd_lo16 : Ieee.double.read 14069741636278059008 = .number true 5000000000000000 1 := by decide +kernel
theorem num_hi16 : Numb Ieee.double 4846369599423283200 false (10000000000000000 * QQ) := ⟨_, _, rd_hi16, by omega, by
  rw [show ((1 : Int) + KK).toNat = KK + 1 by omega, Nat.pow_succ]; have e : 2 ^ KK = QQ := rfl
  rw [e]; generalize QQ = q; omega⟩
theorem num_lo16 : Numb Ieee.double 14069741636278059008 true (10000000000000000 * QQ) := ⟨_, _, rd_lo16, by omega, by
  rw [show ((1 : Int) + KK).toNat = KK + 1 by omega, Nat.pow_succ]; have e : 2 ^ KK = QQ := rfl
  rw [e]; generalize QQ = q; omega⟩
theorem d_zero : ordB .neq (FloatKind.f64.format.order 0 0) = false := by decide +kernel
set_option maxRecDepth 100000 in
theorem isWholeN_p  : PC Try.prog 95 [.nan .f64] (.v (.bool (false))) := by
 refine pc_of_awp Try.func95 rfl Try.ntmps95 (rs := [.tmp 2]) Try.results95 (by simp) fun w0 => ?_
 refine awp_seq ?_
 refine awp_region 1 mixed (by kernel_rfl) ?_
 refine rg_q (q_a rfl) ?_
 refine rn ?_
 change Awp _ _ _ _ _
 refine awp_seq ?_
 refine awp_seq ?_
 refine awp_region 9 mixed (by kernel_rfl) ?_
 refine rg_q (q_move (x := .d (.nan _)) rfl) (rg_q (q_move (x := .d (.nan _)) rfl) ?_)
 refine rg_q (q_fcmpNN (by decide) rfl rfl rfl) ?_
 refine rg_q (q_m rfl) ?_
 refine rg_g rfl rfl (fun hG => (q_move (x := .d (.nan _)) rfl)) ?_
 refine rg_g rfl rfl (fun hG => (q_move (x := .d (.nan _)) rfl)) ?_
 refine rg_g rfl rfl (fun hG => (q_farNN rfl rfl rfl)) ?_
 refine rg_g rfl rfl (fun hG => (q_fcmpN (by decide) rfl rfl rfl)) ?_
 refine rg_pick rfl rfl rfl rfl rfl rfl ?_
 refine rn ?_
 change Awp _ _ _ _ _
 refine awp_cond rfl (fun hc1 => ?_) (fun hc1 => ?_)
 ·
  (try simp only [nb, ne_eq] at hc1)
  refine awp_seq ?_
  refine awp_region 1 mixed (by kernel_rfl) ?_
  refine rg_q (q_a rfl) ?_
  refine rn ?_
  change Awp _ _ _ _ _
  refine awp_ret ?_
  refine ⟨_, (.cons (.tmp (by exact .d _)) .nil), ?_⟩
  rfl
 ·
  rw [show ordB .neq none = true from rfl] at hc1
  simp [bif_or] at hc1
set_option maxRecDepth 100000 in
theorem isWholeBad_p (b : Nat) (h : floatBits .sub .f64 b b = none) : PC Try.prog 95 [.v (.float .f64 b)] (.v (.bool (false))) := by
 refine pc_of_awp Try.func95 rfl Try.ntmps95 (rs := [.tmp 2]) Try.results95 (by simp) fun w0 => ?_
 refine awp_seq ?_
 refine awp_region 1 mixed (by kernel_rfl) ?_
 refine rg_q (q_a rfl) ?_
 refine rn ?_
 change Awp _ _ _ _ _
 refine awp_seq ?_
 refine awp_seq ?_
 refine awp_region 9 mixed (by kernel_rfl) ?_
 refine rg_q (q_m rfl) (rg_q (q_m rfl) ?_)
 refine rg_q (q_fcmp (by decide) rfl rfl rfl) ?_
 refine rg_q (q_m rfl) ?_
 refine rg_g rfl rfl (fun hG => (q_m rfl)) ?_
 refine rg_g rfl rfl (fun hG => (q_m rfl)) ?_
 refine rg_g rfl rfl (fun hG => (q_farN (by decide) rfl rfl h)) ?_
 refine rg_g rfl rfl (fun hG => (q_fcmpN (by decide) rfl rfl rfl)) ?_
 refine rg_pick rfl rfl rfl rfl rfl rfl ?_
 refine rn ?_
 change Awp _ _ _ _ _
 refine awp_cond rfl (fun hc1 => ?_) (fun hc1 => ?_)
 ·
  (try simp only [nb, ne_eq] at hc1)
  refine awp_seq ?_
  refine awp_region 1 mixed (by kernel_rfl) ?_
  refine rg_q (q_a rfl) ?_
  refine rn ?_
  change Awp _ _ _ _ _
  refine awp_ret ?_
  refine ⟨_, (.cons (.tmp (by exact .d _)) .nil), ?_⟩
  rfl
 ·
  rw [show ordB .neq none = true from rfl] at hc1
  simp [bif_or] at hc1
set_option maxRecDepth 100000 in
theorem isWholeNum_p (b : Nat) (c1 c2 c3 : Bool) (n : Int) (hs : floatBits .sub .f64 b b = some 0) (h0 : ordB .neq (FloatKind.f64.format.order b b) = false) (h1 : ordB .geq (FloatKind.f64.format.order b 14069741636278059008) = c1) (h2 : ordB .leq (FloatKind.f64.format.order b 4846369599423283200) = c2) (h3 : (c1 && c2) = true → floatToIntVal .f64 b .i64 = some n ∧ ordB .eql (FloatKind.f64.format.order (FloatKind.f64.nearest n) b) = c3) : PC Try.prog 95 [.v (.float .f64 b)] (.v (.bool (if (c1 && c2) = true then c3 else true))) := by
 refine pc_of_awp Try.func95 rfl Try.ntmps95 (rs := [.tmp 2]) Try.results95 (by simp) fun w0 => ?_
 refine awp_seq ?_
 refine awp_region 1 mixed (by kernel_rfl) ?_
 refine rg_q (q_a rfl) ?_
 refine rn ?_
 change Awp _ _ _ _ _
 refine awp_seq ?_
 refine awp_seq ?_
 refine awp_region 9 mixed (by kernel_rfl) ?_
 refine rg_q (q_m rfl) (rg_q (q_m rfl) ?_)
 refine rg_q (q_fcmp (by decide) rfl rfl h0) ?_
 refine rg_q (q_m rfl) ?_
 refine rg_g rfl rfl (fun hG => (q_m rfl)) ?_
 refine rg_g rfl rfl (fun hG => (q_m rfl)) ?_
 refine rg_g rfl rfl (fun hG => (q_fbin (by decide) rfl rfl hs)) ?_
 refine rg_g rfl rfl (fun hG => (q_fcmp (by decide) rfl rfl d_zero)) ?_
 refine rg_pick rfl rfl rfl rfl rfl rfl ?_
 refine rn ?_
 change Awp _ _ _ _ _
 refine awp_cond rfl (fun hc1 => ?_) (fun hc1 => ?_)
 ·
  cases hc1
 ·
  (try simp only [nb, ne_eq] at hc1)
  refine awp_skip ?_
  change Awp _ _ _ _ _
  refine awp_seq ?_
  refine awp_seq ?_
  refine awp_region 7 mixed (by kernel_rfl) ?_
  refine rg_q (q_m rfl) ?_
  refine rg_q (q_fcmp (by decide) rfl rfl h1) ?_
  refine rg_q (q_m rfl) ?_
  refine rg_g rfl rfl (fun hG => (q_m rfl)) ?_
  refine rg_g rfl rfl (fun hG => (q_fcmp (by decide) rfl rfl h2)) ?_
  refine rg_pick rfl rfl rfl rfl rfl rfl ?_
  refine rg_q (q_not rfl) ?_
  refine rn ?_
  change Awp _ _ _ _ _
  refine awp_cond rfl (fun hc3 => ?_) (fun hc3 => ?_)
  ·
   (try simp only [nb, ne_eq] at hc3)
   have hq : ¬ (c1 && c2) = true := by rcases hc3 with q | q <;> simp [q]
   rw [if_neg hq]
   refine awp_seq ?_
   refine awp_region 1 mixed (by kernel_rfl) ?_
   refine rg_q (q_a rfl) ?_
   refine rn ?_
   change Awp _ _ _ _ _
   refine awp_ret ?_
   refine ⟨_, (.cons (.tmp (by exact .d _)) .nil), ?_⟩
   rfl
  ·
   (try simp only [nb, ne_eq] at hc3)
   have hq : (c1 && c2) = true := by simpa using hc3
   obtain ⟨hi, hb⟩ := h3 hq
   rw [if_pos hq]
   refine awp_skip ?_
   change Awp _ _ _ _ _
   refine awp_seq ?_
   refine awp_region 6 mixed (by kernel_rfl) ?_
   refine rg_q (q_m rfl) ?_
   refine rg_q (q_convfi flt154 int3 rfl hi) ?_
   refine rg_q (q_convf int3 flt154 rfl) ?_
   refine rg_q (q_m rfl) ?_
   refine rg_q (q_fcmp (by decide) rfl rfl hb) ?_
   refine rg_q (q_a rfl) ?_
   refine rn ?_
   change Awp _ _ _ _ _
   refine awp_ret ?_
   refine ⟨_, (.cons (.tmp (by exact .d _)) .nil), ?_⟩
   rfl

theorem sg_in {s : Bool} {M : Nat} (K : Nat) : (decide (sgI true K ≤ sgI s M) && decide (sgI s M ≤ sgI false K)) = decide (M ≤ K) := by
  rw [← Bool.decide_and]
  refine decide_eq_decide.2 ?_
  unfold sgI
  cases s <;> simp <;> omega
theorem isWhole_p (b : Nat) : PC Try.prog 95 [.v (.float .f64 b)] (.v (.bool (whD b))) := by
  cases hr : Ieee.double.read b with
  | nan s t =>
    have e : whD b = false := by unfold whD; rw [hr]
    rw [e]
    exact isWholeBad_p b (show Ieee.double.sub b b = none by unfold Ieee.Format.sub; rw [hr]; rfl)
  | infinity s =>
    have e : whD b = false := by unfold whD; rw [hr]
    rw [e]
    exact isWholeBad_p b (sub_inf hr)
  | number s m e =>
    obtain ⟨M, hM⟩ : ∃ M, m * 2 ^ (e + KK).toNat = M := ⟨_, rfl⟩
    have hn := num_of fmD LD hr
    rw [hM] at hn
    have e : whD b = decide (M % QQ = 0) := by unfold whD; rw [hr]; simp only [hM]
    rw [e]
    have h := isWholeNum_p b _ _ (decide (M % QQ = 0)) (sgI s (M / QQ)) (sub_num hn) (ob_self hn) (ob_geq hn num_lo16) (ob_leq hn num_hi16) (fun q => ?_)
    · rw [sg_in] at h
      by_cases h1 : M ≤ 10000000000000000 * QQ
      · rw [if_pos (decide_eq_true h1)] at h; exact h
      · rw [if_neg (by rw [decide_eq_false h1]; decide)] at h
        have : M % QQ = 0 := big_whole fmD hr hM (by
          have := QQ_pos
          have e : 2 ^ (52 + 1) * QQ ≤ 10000000000000000 * QQ := Nat.mul_le_mul_right _ (by decide)
          omega)
        rw [decide_eq_true this]; exact h
    · rw [sg_in, decide_eq_true_eq] at q
      have h2 : M / QQ ≤ 10000000000000000 := Nat.div_le_of_le_mul (by rw [Nat.mul_comm]; exact q)
      refine ⟨int_num (k := .f64) hn (by omega), back_ord fmD LD hr hM⟩

theorem num_2047 : Numb Ieee.single 1157619712 false (2047 * QQ) := by
  have h := num_wd fmS LS (a := 2047) (by decide)
  rw [show wd Ieee.single 2047 = 1157619712 by decide +kernel, show decide ((2047 : Int) < 0) = false from rfl, show (2047 : Int).natAbs = 2047 from rfl] at h
  exact h
theorem num_m2047 : Numb Ieee.single 3305103360 true (2047 * QQ) := by
  have h := num_wd fmS LS (a := -2047) (by decide)
  rw [show wd Ieee.single (-2047) = 3305103360 by decide +kernel, show decide ((-2047 : Int) < 0) = true from rfl, show (-2047 : Int).natAbs = 2047 from rfl] at h
  exact h
end Go.Proofs.Ytamaocfjknpadaa.Am.M
-- mini
namespace Go.Proofs.Ytamaocfjknpadaa.Am.M
open Go

def ssE : Nat → List Nat → Int × Int
  | _, [] => (0, 0)
  | i, b :: r => if sE b ≠ 0 then ((i : Int), sE b) else ssE (i + 1) r
theorem ssE_at {l : List Nat} {k : Nat} {x : Nat} (hx : l[k]? = some x) : ssE k (l.drop k) = if sE x ≠ 0 then ((k : Int), sE x) else ssE (k + 1) (l.drop (k + 1)) := by
  obtain ⟨hlt, rfl⟩ := List.getElem?_eq_some_iff.1 hx
  rw [List.drop_eq_getElem_cons hlt]; rfl
theorem ssE_ok : ∀ {l : List Nat} {i : Nat}, (ssE i l).2 = 0 → ∀ b ∈ l, sE b = 0
  | [], _, _, p, hp => by cases hp
  | q :: l, i, h, p, hp => by
    unfold ssE at h
    by_cases h1 : sE q ≠ 0
    · rw [if_pos h1] at h; exact absurd h h1
    · rw [if_neg h1] at h
      rcases List.mem_cons.1 hp with rfl | hp
      · exact Decidable.not_not.1 h1
      · exact ssE_ok h p hp
def ckM (ne : Int) (l : List Nat) : Int × Int := if inR 1 ne 16 = true then (if (l.length : Int) ≠ ne * ne * 64 then (0, 10) else ssE 0 l) else (0, 2)
theorem f32_num {b : Nat} {s : Bool} {m : Nat} {e : Int} (hr : Ieee.single.read b = .number s m e) (h0 : sEM (m * 2 ^ (e + KK).toNat) = 0) : Whl b (sgI s (m * 2 ^ (e + KK).toNat / QQ)) := by
  obtain ⟨M, hM⟩ : ∃ M, m * 2 ^ (e + KK).toNat = M := ⟨_, rfl⟩
  have hn := num_of fmS LS hr
  rw [hM] at hn h0 ⊢
  unfold sEM at h0
  by_cases h1 : 16777216 * QQ ≤ M
  · rw [if_pos h1] at h0; cases h0
  rw [if_neg h1] at h0
  by_cases h2 : M % QQ ≠ 0
  · rw [if_pos h2] at h0; cases h0
  rw [if_neg h2] at h0
  by_cases h3 : 2047 * QQ < M
  · rw [if_pos h3] at h0; cases h0
  have hq : M / QQ ≤ 2047 := Nat.div_le_of_le_mul (by rw [Nat.mul_comm]; omega)
  obtain ⟨h4, h5⟩ := sg_le (s := s) _ h1
  obtain ⟨h6, h7⟩ := (in_M (s := s) 2047).2 hq
  refine ⟨h6, h7, ob_self hn, sub_num hn, (ob_geq hn num_hi).trans h4, (ob_leq hn num_lo).trans h5, int_num (k := .f32) hn (by omega), ?_⟩
  have := neq_back fmS LS hr hM
  rw [decide_eq_true (Decidable.not_not.1 h2)] at this
  exact this
theorem sE_whl {b : Nat} (h : sE b = 0) : Whl b (vI b) := by
  unfold sE at h
  cases hr : Ieee.single.read b with
  | nan s t => rw [hr] at h; cases h
  | infinity s => rw [hr] at h; cases h
  | number s m e =>
    rw [hr] at h
    have := f32_num hr h
    rw [this.v]; exact this
theorem ckM_ok {ne : Int} {l : List Nat} (h : (ckM ne l).2 = 0) : 1 ≤ ne ∧ ne ≤ 16 ∧ (l.length : Int) = ne * ne * 64 ∧ WhlL l := by
  unfold ckM at h
  by_cases h1 : inR 1 ne 16 = true
  · rw [if_pos h1] at h
    by_cases h2 : (l.length : Int) ≠ ne * ne * 64
    · rw [if_pos h2] at h; cases h
    · rw [if_neg h2] at h
      obtain ⟨a, b⟩ := inR_iff.1 h1
      exact ⟨a, b, Decidable.not_not.1 h2, fun x hx => sE_whl (ssE_ok h x hx)⟩
  · rw [if_neg h1] at h; cases h
set_option maxRecDepth 100000 in
theorem tsamples5_p (l : List Nat) : PC Try.prog 77 [.sl 1 (l.map fC)] (.tup [.v (.int .i64 ((ssE 0 l).1)), .v (.int .i64 ((ssE 0 l).2))]) := by
 refine pc_of_awp Try.func77 rfl Try.ntmps77 (rs := [.tmp 2, .tmp 3]) Try.results77 (by simp) fun w0 => ?_
 refine awp_seq ?_
 refine awp_region 2 mixed (by kernel_rfl) ?_
 refine rg_q (q_a rfl) (rg_q (q_a rfl) ?_)
 refine rn ?_
 change Awp _ _ _ _ _
 refine awp_seq ?_
 refine awp_seq ?_
 refine awp_region 3 mixed (by kernel_rfl) ?_
 refine rg_q (q_move (x := .d (.sl _ _)) rfl) ?_
 refine rg_q (q_len isl64 rfl (by exact len_map _ _)) ?_
 refine rg_q (q_m rfl) ?_
 refine rn ?_
 change Awp _ _ _ _ _
 refine awp_len (t := 7) rfl (fun hl7 => ?_)
 (try simp only [List.length_map] at hl7)
 refine awp_block ?_
 refine awp_loopH [2, 3, 4, 5, 6, 9, 10, 11, 12, 13, 14, 15, 16, 17, 18, 19, 20] [] (α := Nat) (fun k => [(9, T.i (k : Int))]) (fun k => []) (fun k => k ≤ l.length ∧ ssE 0 l = ssE k (l.drop k)) (fun k => l.length - k) 0 ⟨Nat.zero_le _, rfl⟩ ?_ ?_
 · exact le_head (ms := []) (by repeat (exact Out.refl _)) ⟨(by rfl), trivial⟩ trivial rfl rfl rfl rfl
 ·
  intro k ⟨hk, hf⟩
  refine awp_seq ?_
  refine awp_region 1 mixed (by kernel_rfl) ?_
  refine rg_q (q_lss rfl rfl) ?_
  refine rn ?_
  change Awp _ _ _ _ _
  refine awp_seq ?_
  refine awp_cond rfl (fun hc2 => ?_) (fun hc2 => ?_)
  ·
   (try simp only [nb, ne_eq] at hc2)
   have hlt : k < l.length := by omega
   obtain ⟨x, hx⟩ : ∃ x, l[k]? = some x := ⟨_, List.getElem?_eq_getElem hlt⟩
   have hd := ssE_at hx
   refine awp_skip ?_
   change Awp _ _ _ _ _
   refine awp_seq ?_
   refine awp_block ?_
   refine awp_seq ?_
   refine awp_region 5 mixed (by kernel_rfl) ?_
   refine rg_q (q_m rfl) ?_
   refine rg_q (q_indexAddr sl64 rfl rfl (by omega) (map_at (by omega) hx)) ?_
   refine rg_q (q_load sz52 rfl rfl) (rg_q (q_a rfl) (rg_q (q_a rfl) ?_))
   refine rs (awp_region 3 mixed (by kernel_rfl) ?_)
   refine rg_q (q_m rfl) ?_
   refine rg_q (q_call en94 (.cons rfl .nil) rfl (tsampleErr5_p _)) ?_
   refine rg_q (q_a rfl) ?_
   refine rs (awp_region 2 mixed (by kernel_rfl) ?_)
   refine rg_q (q_m rfl) (rg_q (q_neq rfl rfl) ?_)
   refine rn ?_
   change Awp _ _ _ _ _
   refine awp_cond rfl (fun hc5 => ?_) (fun hc5 => ?_)
   ·
    (try simp only [nb, ne_eq] at hc5)
    have hb : sE x ≠ 0 := hc5
    have hz : ssE 0 l = ((k : Int), sE x) := by rw [hf, hd, if_pos hb]
    rw [hz]
    refine awp_seq ?_
    refine awp_region 4 mixed (by kernel_rfl) ?_
    refine rg_q (q_m rfl) (rg_q (q_m rfl) (rg_q (q_a rfl) (rg_q (q_a rfl) ?_)))
    refine rn ?_
    change Awp _ _ _ _ _
    refine awp_ret ?_
    refine ⟨_, (.cons (.tmp (by exact .d _)) (.cons (.tmp (by exact .d _)) .nil)), ?_⟩
    rfl
   ·
    (try simp only [nb, ne_eq] at hc5)
    have hb : sE x = 0 := hc5
    refine awp_skip ?_
    change Awp _ _ _ _ _
    refine awp_region 2 mixed (by kernel_rfl) ?_
    refine rg_q (q_add rfl rfl (In64.mk (by omega) (by omega))) ?_
    refine rg_q (q_m rfl) ?_
    refine rn ?_
    refine ⟨k + 1, ⟨by omega, by rw [hf, hd, if_neg (by rw [hb]; simp)]⟩, by omega, ?_⟩
    exact le_head (ms := []) (by repeat (first | exact Out.head rfl rfl | (refine Out.put ?_ rfl))) ⟨(by rfl), trivial⟩ trivial rfl rfl rfl rfl
  ·
   (try simp only [nb, ne_eq] at hc2)
   have hk0 : ssE 0 l = (0, 0) := by rw [hf, List.drop_of_length_le (by omega)]; rfl
   rw [hk0]
   refine awp_exit ?_
   change Awp _ _ _ _ _
   refine awp_seq ?_
   refine awp_region 2 mixed (by kernel_rfl) ?_
   refine rg_q (q_a rfl) (rg_q (q_a rfl) ?_)
   refine rn ?_
   change Awp _ _ _ _ _
   refine awp_ret ?_
   refine ⟨_, (.cons (.tmp (by exact .d _)) (.cons (.tmp (by exact .d _)) .nil)), ?_⟩
   rfl
set_option maxRecDepth 100000 in
theorem checkMatrix5_p (ne : Int) (l : List Nat) : PC Try.prog 52 [.agg [.v (.int .i64 (ne)), .sl 1 (l.map fC)]] (.tup [.v (.int .i64 ((ckM ne l).1)), .v (.int .i64 ((ckM ne l).2))]) := by
 have hu : ckM ne l = if inR 1 ne 16 = true then (if (l.length : Int) ≠ ne * ne * 64 then (0, 10) else ssE 0 l) else (0, 2) := rfl
 refine pc_of_awp Try.func52 rfl Try.ntmps52 (rs := [.tmp 2, .tmp 3]) Try.results52 (by simp) fun w0 => ?_
 refine awp_seq ?_
 refine awp_region 3 mixed (by kernel_rfl) ?_
 refine rg_q (q_box rfl (by exact .inr ⟨_, rfl⟩)) ?_
 refine rg_q (q_a rfl) (rg_q (q_a rfl) ?_)
 refine rn ?_
 change Awp _ _ _ _ _
 refine awp_seq ?_
 refine awp_block ?_
 refine awp_seq ?_
 refine awp_region 5 mixed (by kernel_rfl) ?_
 refine rg_q (q_fieldAddr fld66_0 rfl) (rg_q (q_load sz3 rfl rfl) ?_)
 refine rg_q (q_call en76 (.cons rfl (.cons rfl (.cons rfl .nil))) rfl (twithin_p _ _ _)) ?_
 refine rg_q (q_not rfl) (rg_q (q_a rfl) ?_)
 refine rn ?_
 change Awp _ _ _ _ _
 refine awp_cond rfl (fun hc1 => ?_) (fun hc1 => ?_)
 ·
  (try simp only [nb, ne_eq] at hc1)
  rw [if_neg (by simpa using hc1)] at hu
  rw [hu]
  refine awp_seq ?_
  refine awp_region 2 mixed (by kernel_rfl) ?_
  refine rg_q (q_a rfl) (rg_q (q_a rfl) ?_)
  refine rn ?_
  change Awp _ _ _ _ _
  refine awp_ret ?_
  refine ⟨_, (.cons (.tmp (by exact .d _)) (.cons (.tmp (by exact .d _)) .nil)), ?_⟩
  rfl
 ·
  (try simp only [nb, ne_eq] at hc1)
  have hr1 : inR 1 ne 16 = true := by simpa using hc1
  rw [if_pos hr1] at hu
  obtain ⟨hn1, hn2⟩ := inR_iff.1 hr1
  have hm := mulb (a := ne) (b := ne) (A := 16) (B := 16) (by omega) (by omega) (by omega) (by omega)
  refine awp_seq ?_
  refine awp_region 11 mixed (by kernel_rfl) ?_
  refine rg_q (q_fieldAddr fld66_1 rfl) (rg_q (q_load sz64 rfl rfl) ?_)
  refine rg_q (q_len isl64 rfl (by exact len_map _ _)) ?_
  refine rg_q (q_fieldAddr fld66_0 rfl) (rg_q (q_load sz3 rfl rfl) (rg_q (q_fieldAddr fld66_0 rfl) (rg_q (q_load sz3 rfl rfl) ?_)))
  refine rg_q (q_mul rfl rfl (In64.mk (by omega) (by omega))) ?_
  refine rg_q (q_mul rfl rfl (In64.mk (by omega) (by omega))) ?_
  refine rg_q (q_neq rfl rfl) (rg_q (q_a rfl) ?_)
  refine rn ?_
  change Awp _ _ _ _ _
  refine awp_len (t := 11) rfl (fun hl11 => ?_)
  (try simp only [List.length_map] at hl11)
  refine awp_cond rfl (fun hc3 => ?_) (fun hc3 => ?_)
  ·
   (try simp only [nb, ne_eq] at hc3)
   rw [if_pos (by simpa using hc3)] at hu
   rw [hu]
   refine awp_seq ?_
   refine awp_region 2 mixed (by kernel_rfl) ?_
   refine rg_q (q_a rfl) (rg_q (q_a rfl) ?_)
   refine rn ?_
   change Awp _ _ _ _ _
   refine awp_ret ?_
   refine ⟨_, (.cons (.tmp (by exact .d _)) (.cons (.tmp (by exact .d _)) .nil)), ?_⟩
   rfl
  ·
   (try simp only [nb, ne_eq] at hc3)
   rw [if_neg (by simpa using hc3)] at hu
   rw [hu]
   refine awp_skip ?_
   change Awp _ _ _ _ _
   refine awp_seq ?_
   refine awp_region 7 mixed (by kernel_rfl) ?_
   refine rg_q (q_fieldAddr fld66_1 rfl) (rg_q (q_load sz64 rfl rfl) ?_)
   refine rg_q (q_call en77 (.cons rfl .nil) rfl (tsamples5_p l)) ?_
   refine rg_q (q_extract rfl rfl) (rg_q (q_extract rfl rfl) (rg_q (q_a rfl) (rg_q (q_a rfl) ?_)))
   refine rn ?_
   change Awp _ _ _ _ _
   refine awp_ret ?_
   refine ⟨_, (.cons (.tmp (by exact .d _)) (.cons (.tmp (by exact .d _)) .nil)), ?_⟩
   rfl
end Go.Proofs.Ytamaocfjknpadaa.Am.M
-- mini
namespace Go.Proofs.Ytamaocfjknpadaa.Am.M
open Go

theorem lt_q {M Q : Nat} (hQ : 0 < Q) (h : 16777216 * Q ≤ M) : 2047 * Q < M := by omega
theorem nan_of {b : Nat} {s : Bool} {t : Nat} (h : Ieee.single.read b = .nan s t) : (FloatKind.f32.decode b).isNaN = true := by
  have e : FloatKind.f32.decode b = Ieee.single.read b := rfl
  rw [e, h]; rfl
set_option maxRecDepth 100000 in
theorem rsampleN_p (b : Nat) (h : (FloatKind.f32.decode b).isNaN = true) : PC Try.prog 80 [fd b] (.v (.int .i64 (25))) := by
 refine pc_of_awp Try.func80 rfl Try.ntmps80 (rs := [.tmp 2]) Try.results80 (by simp) fun w0 => ?_
 refine awp_seq ?_
 refine awp_region 1 mixed (by kernel_rfl) ?_
 refine rg_q (q_a rfl) ?_
 refine rn ?_
 change Awp _ _ _ _ _
 refine awp_seq ?_
 refine awp_seq ?_
 refine awp_region 4 mixed (by kernel_rfl) ?_
 refine rg_q (q_m rfl) ?_
 refine rg_q (q_convffN flt52 flt154 (by decide) rfl h) ?_
 refine rg_q (q_call en95 (.cons rfl .nil) rfl (isWholeN_p)) ?_
 refine rg_q (q_not rfl) ?_
 refine rn ?_
 change Awp _ _ _ _ _
 refine awp_cond rfl (fun hc1 => ?_) (fun hc1 => ?_)
 ·
  (try simp only [nb, ne_eq] at hc1)
  refine awp_seq ?_
  refine awp_region 1 mixed (by kernel_rfl) ?_
  refine rg_q (q_a rfl) ?_
  refine rn ?_
  change Awp _ _ _ _ _
  refine awp_ret ?_
  refine ⟨_, (.cons (.tmp (by exact .d _)) .nil), ?_⟩
  rfl
 ·
  simp at hc1
set_option maxRecDepth 100000 in
theorem rsampleB_p (b b' : Nat) (w c1 c2 : Bool) (hc : floatToFloatBits .f32 b .f64 = some b') (hw : whD b' = w) (h1 : ordB .lss (FloatKind.f32.format.order b 3305103360) = c1) (h2 : ordB .gtr (FloatKind.f32.format.order b 1157619712) = c2) : PC Try.prog 80 [fd b] (.v (.int .i64 (if w = true then (if (c1 || c2) = true then 2 else 0) else 25))) := by
 refine pc_of_awp Try.func80 rfl Try.ntmps80 (rs := [.tmp 2]) Try.results80 (by simp) fun w0 => ?_
 refine awp_seq ?_
 refine awp_region 1 mixed (by kernel_rfl) ?_
 refine rg_q (q_a rfl) ?_
 refine rn ?_
 change Awp _ _ _ _ _
 refine awp_seq ?_
 refine awp_seq ?_
 refine awp_region 4 mixed (by kernel_rfl) ?_
 refine rg_q (q_m rfl) ?_
 refine rg_q (q_convff flt52 flt154 rfl hc) ?_
 refine rg_q (q_call en95 (.cons rfl .nil) rfl ((by have h := isWhole_p b'; rw [hw] at h; exact h))) ?_
 refine rg_q (q_not rfl) ?_
 refine rn ?_
 change Awp _ _ _ _ _
 refine awp_cond rfl (fun hc1 => ?_) (fun hc1 => ?_)
 ·
  (try simp only [nb, ne_eq] at hc1)
  rw [if_neg (by rw [hc1]; decide)]
  refine awp_seq ?_
  refine awp_region 1 mixed (by kernel_rfl) ?_
  refine rg_q (q_a rfl) ?_
  refine rn ?_
  change Awp _ _ _ _ _
  refine awp_ret ?_
  refine ⟨_, (.cons (.tmp (by exact .d _)) .nil), ?_⟩
  rfl
 ·
  (try simp only [nb, ne_eq] at hc1)
  rw [if_pos hc1]
  refine awp_skip ?_
  change Awp _ _ _ _ _
  refine awp_seq ?_
  refine awp_seq ?_
  refine awp_region 6 mixed (by kernel_rfl) ?_
  refine rg_q (q_m rfl) ?_
  refine rg_q (q_fcmp (by decide) rfl rfl h1) ?_
  refine rg_q (q_m rfl) ?_
  refine rg_g rfl rfl (fun hG => (q_m rfl)) ?_
  refine rg_g rfl rfl (fun hG => (q_fcmp (by decide) rfl rfl h2)) ?_
  refine rg_pick rfl rfl rfl rfl rfl rfl ?_
  refine rn ?_
  change Awp _ _ _ _ _
  refine awp_cond rfl (fun hc3 => ?_) (fun hc3 => ?_)
  ·
   (try simp only [nb, ne_eq] at hc3)
   rw [if_pos (show (c1 || c2) = true by simpa using hc3)]
   refine awp_seq ?_
   refine awp_region 1 mixed (by kernel_rfl) ?_
   refine rg_q (q_a rfl) ?_
   refine rn ?_
   change Awp _ _ _ _ _
   refine awp_ret ?_
   refine ⟨_, (.cons (.tmp (by exact .d _)) .nil), ?_⟩
   rfl
  ·
   (try simp only [nb, ne_eq] at hc3)
   rw [if_neg (show ¬ (c1 || c2) = true by simpa using hc3)]
   refine awp_skip ?_
   change Awp _ _ _ _ _
   refine awp_seq ?_
   refine awp_region 1 mixed (by kernel_rfl) ?_
   refine rg_q (q_a rfl) ?_
   refine rn ?_
   change Awp _ _ _ _ _
   refine awp_ret ?_
   refine ⟨_, (.cons (.tmp (by exact .d _)) .nil), ?_⟩
   rfl

theorem out_M {s : Bool} {M : Nat} (K : Nat) : (decide (sgI s M < sgI true K) || decide (sgI false K < sgI s M)) = decide (K < M) := by
  rw [← Bool.decide_or]
  refine decide_eq_decide.2 ?_
  unfold sgI
  cases s <;> simp <;> omega
theorem rsampleErr5_p (b : Nat) : PC Try.prog 80 [fd b] (.v (.int .i64 (sE b))) := by
  cases hr : Ieee.single.read b with
  | nan s t =>
    have e : sE b = 25 := by unfold sE; rw [hr]
    rw [e]
    exact rsampleN_p b (nan_of hr)
  | infinity s =>
    have e : sE b = 25 := by unfold sE; rw [hr]
    rw [e]
    obtain ⟨b', h1, h2⟩ := wide_inf hr
    exact rsampleB_p b b' false _ _ h1 (by unfold whD; rw [h2]) rfl rfl
  | number s m e =>
    obtain ⟨M, hM⟩ : ∃ M, m * 2 ^ (e + KK).toNat = M := ⟨_, rfl⟩
    have hn := num_of fmS LS hr
    rw [hM] at hn
    have e1 : sE b = sEM M := by unfold sE; rw [hr]; simp only [hM]
    rw [e1]
    obtain ⟨b', h1, m', e', h2, h3⟩ := wide_num hr
    have h := rsampleB_p b b' (decide (M % QQ = 0)) _ _ h1 (by unfold whD; rw [h2]; simp only [h3, hM]) (ob_lss hn num_m2047) (ob_gtr hn num_2047)
    rw [out_M] at h
    have e2 : (if decide (M % QQ = 0) = true then (if decide (2047 * QQ < M) = true then (2 : Int) else 0) else 25) = sEM M := by
      unfold sEM
      by_cases h4 : M % QQ = 0
      · rw [if_pos (decide_eq_true h4), if_neg (c := M % QQ ≠ 0) (fun q => q h4)]
        by_cases h5 : 16777216 * QQ ≤ M
        · have h6 : decide (2047 * QQ < M) = true := by
            revert h5
            have hq := QQ_pos
            generalize QQ = q at hq ⊢
            exact fun h5 => decide_eq_true (lt_q hq h5)
          rw [if_pos h5, if_pos (show decide (2047 * QQ < M) = true from h6)]
        · rw [if_neg h5]
          by_cases h6 : 2047 * QQ < M
          · rw [if_pos (decide_eq_true h6), if_pos h6]
          · rw [if_neg (by rw [decide_eq_false h6]; decide), if_neg h6]
      · have h5 : ¬ 16777216 * QQ ≤ M := fun q => h4 (big_whole fmS hr hM (Nat.le_trans (Nat.mul_le_mul_right QQ (show 2 ^ (23 + 1) ≤ 16777216 by decide)) q))
        rw [if_neg (by rw [decide_eq_false h4]; decide), if_neg h5, if_pos (c := M % QQ ≠ 0) h4]
    rw [e2] at h
    exact h
set_option maxRecDepth 100000 in
theorem rsamples5_p (l : List Nat) : PC Try.prog 55 [.sl 1 (l.map fC)] (.tup [.v (.int .i64 ((ssE 0 l).1)), .v (.int .i64 ((ssE 0 l).2))]) := by
 refine pc_of_awp Try.func55 rfl Try.ntmps55 (rs := [.tmp 2, .tmp 3]) Try.results55 (by simp) fun w0 => ?_
 refine awp_seq ?_
 refine awp_region 2 mixed (by kernel_rfl) ?_
 refine rg_q (q_a rfl) (rg_q (q_a rfl) ?_)
 refine rn ?_
 change Awp _ _ _ _ _
 refine awp_seq ?_
 refine awp_seq ?_
 refine awp_region 1 mixed (by kernel_rfl) ?_
 refine rg_q (q_a rfl) ?_
 refine rn ?_
 change Awp _ _ _ _ _
 refine awp_block ?_
 refine awp_loopH [2, 3, 4, 5, 6, 7, 8, 9, 10, 11, 12, 13, 14, 15, 16, 17, 18, 19, 20] [] (α := Nat) (fun k => [(4, T.i (k : Int))]) (fun k => []) (fun k => k ≤ l.length ∧ ssE 0 l = ssE k (l.drop k)) (fun k => l.length - k) 0 ⟨Nat.zero_le _, rfl⟩ ?_ ?_
 · exact le_head (ms := []) (by repeat (exact Out.refl _)) ⟨(by rfl), trivial⟩ trivial rfl rfl rfl rfl
 ·
  intro k ⟨hk, hf⟩
  refine awp_seq ?_
  refine awp_seq ?_
  refine awp_region 4 mixed (by kernel_rfl) ?_
  refine rg_q (q_m rfl) (rg_q (q_move (x := .d (.sl _ _)) rfl) ?_)
  refine rg_q (q_len isl64 rfl (by exact len_map _ _)) ?_
  refine rg_q (q_lss rfl rfl) ?_
  refine rn ?_
  change Awp _ _ _ _ _
  refine awp_len (t := 7) rfl (fun hl7 => ?_)
  (try simp only [List.length_map] at hl7)
  refine awp_cond rfl (fun hc2 => ?_) (fun hc2 => ?_)
  ·
   (try simp only [nb, ne_eq] at hc2)
   have hlt : k < l.length := by omega
   obtain ⟨x, hx⟩ : ∃ x, l[k]? = some x := ⟨_, List.getElem?_eq_getElem hlt⟩
   have hd := ssE_at hx
   refine awp_skip ?_
   change Awp _ _ _ _ _
   refine awp_seq ?_
   refine awp_block ?_
   refine awp_seq ?_
   refine awp_region 6 mixed (by kernel_rfl) ?_
   refine rg_q (q_move (x := .d (.sl _ _)) rfl) (rg_q (q_m rfl) ?_)
   refine rg_q (q_indexAddr sl64 rfl rfl (by omega) (map_at (by omega) hx)) ?_
   refine rg_q (q_load sz52 rfl rfl) ?_
   refine rg_q (q_call en80 (.cons rfl .nil) rfl (rsampleErr5_p _)) ?_
   refine rg_q (q_a rfl) ?_
   refine rs (awp_region 2 mixed (by kernel_rfl) ?_)
   refine rg_q (q_m rfl) (rg_q (q_neq rfl rfl) ?_)
   refine rn ?_
   change Awp _ _ _ _ _
   refine awp_cond rfl (fun hc5 => ?_) (fun hc5 => ?_)
   ·
    (try simp only [nb, ne_eq] at hc5)
    have hb : sE x ≠ 0 := hc5
    have hz : ssE 0 l = ((k : Int), sE x) := by rw [hf, hd, if_pos hb]
    rw [hz]
    refine awp_seq ?_
    refine awp_region 4 mixed (by kernel_rfl) ?_
    refine rg_q (q_m rfl) (rg_q (q_m rfl) (rg_q (q_a rfl) (rg_q (q_a rfl) ?_)))
    refine rn ?_
    change Awp _ _ _ _ _
    refine awp_ret ?_
    refine ⟨_, (.cons (.tmp (by exact .d _)) (.cons (.tmp (by exact .d _)) .nil)), ?_⟩
    rfl
   ·
    (try simp only [nb, ne_eq] at hc5)
    have hb : sE x = 0 := hc5
    refine awp_skip ?_
    change Awp _ _ _ _ _
    refine awp_region 3 mixed (by kernel_rfl) ?_
    refine rg_q (q_m rfl) ?_
    refine rg_q (q_add rfl rfl (In64.mk (by omega) (by omega))) ?_
    refine rg_q (q_a rfl) ?_
    refine rn ?_
    refine ⟨k + 1, ⟨by omega, by rw [hf, hd, if_neg (by rw [hb]; simp)]⟩, by omega, ?_⟩
    exact le_head (ms := []) (by repeat (first | exact Out.head rfl rfl | (refine Out.put ?_ rfl))) ⟨(by rfl), trivial⟩ trivial rfl rfl rfl rfl
  ·
   (try simp only [nb, ne_eq] at hc2)
   have hk0 : ssE 0 l = (0, 0) := by rw [hf, List.drop_of_length_le (by omega)]; rfl
   rw [hk0]
   refine awp_exit ?_
   change Awp _ _ _ _ _
   refine awp_seq ?_
   refine awp_region 2 mixed (by kernel_rfl) ?_
   refine rg_q (q_a rfl) (rg_q (q_a rfl) ?_)
   refine rn ?_
   change Awp _ _ _ _ _
   refine awp_ret ?_
   refine ⟨_, (.cons (.tmp (by exact .d _)) (.cons (.tmp (by exact .d _)) .nil)), ?_⟩
   rfl
set_option maxRecDepth 100000 in
theorem rcheckMatrix5_p (ne : Int) (l : List Nat) : PC Try.prog 24 [.agg [.v (.int .i64 (ne)), .sl 1 (l.map fC)]] (.tup [.v (.int .i64 ((ckM ne l).1)), .v (.int .i64 ((ckM ne l).2))]) := by
 have hu : ckM ne l = if inR 1 ne 16 = true then (if (l.length : Int) ≠ ne * ne * 64 then (0, 10) else ssE 0 l) else (0, 2) := rfl
 refine pc_of_awp Try.func24 rfl Try.ntmps24 (rs := [.tmp 2, .tmp 3]) Try.results24 (by simp) fun w0 => ?_
 refine awp_seq ?_
 refine awp_region 3 mixed (by kernel_rfl) ?_
 refine rg_q (q_box rfl (by exact .inr ⟨_, rfl⟩)) ?_
 refine rg_q (q_a rfl) (rg_q (q_a rfl) ?_)
 refine rn ?_
 change Awp _ _ _ _ _
 refine awp_seq ?_
 refine awp_seq ?_
 refine awp_region 4 mixed (by kernel_rfl) ?_
 refine rg_q (q_fieldAddr fld66_0 rfl) (rg_q (q_load sz3 rfl rfl) ?_)
 refine rg_q (q_call en10 (.cons rfl (.cons rfl (.cons rfl .nil))) rfl (within4_p _ _ _)) ?_
 refine rg_q (q_not rfl) ?_
 refine rn ?_
 change Awp _ _ _ _ _
 refine awp_cond rfl (fun hc1 => ?_) (fun hc1 => ?_)
 ·
  (try simp only [nb, ne_eq] at hc1)
  rw [if_neg (by simpa using hc1)] at hu
  rw [hu]
  refine awp_seq ?_
  refine awp_region 2 mixed (by kernel_rfl) ?_
  refine rg_q (q_a rfl) (rg_q (q_a rfl) ?_)
  refine rn ?_
  change Awp _ _ _ _ _
  refine awp_ret ?_
  refine ⟨_, (.cons (.tmp (by exact .d _)) (.cons (.tmp (by exact .d _)) .nil)), ?_⟩
  rfl
 ·
  (try simp only [nb, ne_eq] at hc1)
  have hr1 : inR 1 ne 16 = true := by simpa using hc1
  rw [if_pos hr1] at hu
  obtain ⟨hn1, hn2⟩ := inR_iff.1 hr1
  have hm := mulb (a := ne) (b := ne) (A := 16) (B := 16) (by omega) (by omega) (by omega) (by omega)
  refine awp_skip ?_
  change Awp _ _ _ _ _
  refine awp_seq ?_
  refine awp_seq ?_
  refine awp_region 10 mixed (by kernel_rfl) ?_
  refine rg_q (q_fieldAddr fld66_1 rfl) (rg_q (q_load sz64 rfl rfl) ?_)
  refine rg_q (q_len isl64 rfl (by exact len_map _ _)) ?_
  refine rg_q (q_fieldAddr fld66_0 rfl) (rg_q (q_load sz3 rfl rfl) (rg_q (q_fieldAddr fld66_0 rfl) (rg_q (q_load sz3 rfl rfl) ?_)))
  refine rg_q (q_mul rfl rfl (In64.mk (by omega) (by omega))) ?_
  refine rg_q (q_mul rfl rfl (In64.mk (by omega) (by omega))) ?_
  refine rg_q (q_neq rfl rfl) ?_
  refine rn ?_
  change Awp _ _ _ _ _
  refine awp_len (t := 9) rfl (fun hl9 => ?_)
  (try simp only [List.length_map] at hl9)
  refine awp_cond rfl (fun hc3 => ?_) (fun hc3 => ?_)
  ·
   (try simp only [nb, ne_eq] at hc3)
   rw [if_pos (by simpa using hc3)] at hu
   rw [hu]
   refine awp_seq ?_
   refine awp_region 2 mixed (by kernel_rfl) ?_
   refine rg_q (q_a rfl) (rg_q (q_a rfl) ?_)
   refine rn ?_
   change Awp _ _ _ _ _
   refine awp_ret ?_
   refine ⟨_, (.cons (.tmp (by exact .d _)) (.cons (.tmp (by exact .d _)) .nil)), ?_⟩
   rfl
  ·
   (try simp only [nb, ne_eq] at hc3)
   rw [if_neg (by simpa using hc3)] at hu
   rw [hu]
   refine awp_skip ?_
   change Awp _ _ _ _ _
   refine awp_seq ?_
   refine awp_region 7 mixed (by kernel_rfl) ?_
   refine rg_q (q_fieldAddr fld66_1 rfl) (rg_q (q_load sz64 rfl rfl) ?_)
   refine rg_q (q_call en55 (.cons rfl .nil) rfl (rsamples5_p l)) ?_
   refine rg_q (q_extract rfl rfl) (rg_q (q_extract rfl rfl) (rg_q (q_a rfl) (rg_q (q_a rfl) ?_)))
   refine rn ?_
   change Awp _ _ _ _ _
   refine awp_ret ?_
   refine ⟨_, (.cons (.tmp (by exact .d _)) (.cons (.tmp (by exact .d _)) .nil)), ?_⟩
   rfl

set_option maxRecDepth 100000 in
theorem copyMatrix5_p (ne : Int) (l : List Nat) (hl : l.length ≤ 10000) : PC Try.prog 23 [.agg [.v (.int .i64 (ne)), .sl 1 (l.map fC)]] (.agg (mtxC ne l)) := by
 refine pc_of_awp Try.func23 rfl Try.ntmps23 (rs := [.cell 2 66]) Try.results23 (by simp) fun w0 => ?_
 refine awp_seq ?_
 refine awp_region 1 mixed (by kernel_rfl) ?_
 refine rg_q (q_box rfl (by exact .inr ⟨_, rfl⟩)) ?_
 refine rg_nil ?_
 refine aops_alloc zr66 rfl rfl rfl ?_
 refine aops_nil ?_
 change Awp _ _ _ _ _
 refine awp_seq ?_
 refine awp_region 7 mixed (by kernel_rfl) ?_
 refine rg_q (q_fieldAddr fld66_0 rfl) (rg_q (q_load sz3 rfl rfl) ?_)
 refine rg_q (q_empty0 sl64 zr52) ?_
 refine rg_q (q_fieldAddr fld66_1 rfl) (rg_q (q_load sz64 rfl rfl) ?_)
 refine rg_q (q_append0 sl64 zr52 by52 rfl (by decide) rfl rfl rfl (by (try simp only [List.length_map]); omega) (by (try simp only [List.length_map]); omega)) ?_
 refine rg_q (q_build (cs := [_, _]) pl66 zr66 rfl (.cons rfl (by exact .inl rfl) (.cons rfl (by exact .inl rfl) .nil)) ⟨⟨rfl, by decide⟩, ⟨rfl, by decide⟩, trivial⟩ rfl) ?_
 refine rg_nil ?_
 refine aops_store sz66 rfl rfl (by exact .inr ⟨_, rfl⟩) rfl rfl (by decide) rfl ?_
 refine aops_nil ?_
 change Awp _ _ _ _ _
 refine awp_ret ?_
 refine ⟨_, (.cons (.cellA rfl rfl sz66 rfl) .nil), ?_⟩
 rfl

end Go.Proofs.Ytamaocfjknpadaa.Am.M
-- mini
namespace Go.Proofs.Ytamaocfjknpadaa.Am.M
open Go

def nzX (x : Int) : Int := (1103515245 * x + 12345).tmod 2147483648
def nzS (x : Int) : Nat → Int
  | 0 => x
  | k + 1 => nzX (nzS x k)
def nzV (sz x : Int) : Int := (x.tdiv 65536).tmod (2 * sz + 1) - sz
def nzL (sz x : Int) (n : Nat) : List Int := (List.range n).map fun k => nzV sz (nzS x (k + 1))
theorem nzL_succ (sz x : Int) (n : Nat) : nzL sz x (n + 1) = nzL sz x n ++ [nzV sz (nzS x (n + 1))] := by unfold nzL; rw [List.range_succ, List.map_append]; rfl
theorem nzL_len (sz x : Int) (n : Nat) : (nzL sz x n).length = n := by unfold nzL; rw [List.length_map, List.length_range]
theorem nzL_take (sz x : Int) {k n : Nat} (h : k ≤ n) : (nzL sz x n).take k = nzL sz x k := by unfold nzL; rw [← List.map_take, List.take_range, Nat.min_eq_left h]
theorem nzL_pre (sz x : Int) {k n : Nat} (h : k ≤ n) : nzL sz x k <+: nzL sz x n := by rw [← nzL_take sz x h]; exact List.take_prefix _ _
theorem nzX_in {x : Int} (h : 0 ≤ x ∧ x ≤ 2147483647) : 0 ≤ nzX x ∧ nzX x ≤ 2147483647 := by
  unfold nzX
  rw [Int.tmod_eq_emod_of_nonneg (by omega)]
  omega
theorem nzS_in {x : Int} (h : 0 ≤ x ∧ x ≤ 2147483647) : ∀ k : Nat, 0 ≤ nzS x k ∧ nzS x k ≤ 2147483647
  | 0 => h
  | k + 1 => nzX_in (nzS_in h k)
theorem nz_facts {x sz : Int} (h : 0 ≤ x ∧ x ≤ 2147483647) (h1 : 0 ≤ sz) : (0 ≤ x.tdiv 65536 ∧ x.tdiv 65536 ≤ 32767) ∧ 0 ≤ (x.tdiv 65536).tmod (2 * sz + 1) ∧ (x.tdiv 65536).tmod (2 * sz + 1) ≤ 2 * sz := by
  have hd : x.tdiv 65536 = x / 65536 := Int.tdiv_eq_ediv_of_nonneg (by omega)
  rw [hd]
  have h2 : 0 ≤ x / 65536 ∧ x / 65536 ≤ 32767 := by omega
  refine ⟨h2, ?_⟩
  rw [Int.tmod_eq_emod_of_nonneg h2.1]
  have := Int.emod_nonneg (x / 65536) (show 2 * sz + 1 ≠ 0 by omega)
  have := Int.emod_lt_of_pos (x / 65536) (show 0 < 2 * sz + 1 by omega)
  omega
theorem nzV_in {x sz : Int} (h : 0 ≤ x ∧ x ≤ 2147483647) (h1 : 0 ≤ sz) : -sz ≤ nzV sz x ∧ nzV sz x ≤ sz := by
  have := (nz_facts h h1).2
  unfold nzV
  omega
def nzE (s z c : Int) : Int := whenI (!inR 0 s 2147483647 || !inR 0 z 200 || !inR 0 c 16384) 2
theorem nz_inR {l h a : Int} : inR l a h = true ↔ l ≤ a ∧ a ≤ h := by unfold inR; simp
theorem nzE_zero {s z c : Int} : nzE s z c = 0 ↔ (0 ≤ s ∧ s ≤ 2147483647) ∧ (0 ≤ z ∧ z ≤ 200) ∧ 0 ≤ c ∧ c ≤ 16384 := by
  unfold nzE
  rw [when_zero (by decide), Bool.or_eq_false_iff, Bool.or_eq_false_iff, Bool.not_eq_false', Bool.not_eq_false', Bool.not_eq_false', nz_inR, nz_inR, nz_inR]
  constructor
  · rintro ⟨⟨a, b⟩, c⟩; exact ⟨a, b, c⟩
  · rintro ⟨a, b, c⟩; exact ⟨⟨a, b⟩, c⟩
def encI (n : Int) : List D := iC n
def nzR (s z c : Int) : List Int × Int := if nzE s z c ≠ 0 then ([], nzE s z c) else (nzL z s c.toNat, 0)
theorem nzR_err {s z c : Int} (h : nzE s z c ≠ 0) : nzR s z c = ([], 2) := by
  unfold nzR
  rw [if_pos h]
  unfold nzE whenI at h ⊢
  split at h
  · rename_i q; rw [if_pos q]
  · exact absurd rfl h
theorem nzR_ok {s z : Int} {n : Nat} (h : nzE s z n = 0) : nzR s z n = (nzL z s n, 0) := by
  unfold nzR
  rw [if_neg (fun q => q h), Int.toNat_natCast]
set_option maxRecDepth 100000 in
theorem noiseErr_p (s z c : Int) : PC Try.prog 31 [.v (.int .i64 (s)), .v (.int .i64 (z)), .v (.int .i64 (c))] (.v (.int .i64 (nzE s z c))) := by
 refine pc_of_awp Try.func31 rfl Try.ntmps31 (rs := [.tmp 6]) Try.results31 (by simp) fun w0 => ?_
 refine awp_seq ?_
 refine awp_region 1 mixed (by kernel_rfl) ?_
 refine rg_q (q_a rfl) ?_
 refine rs (awp_region 15 mixed (by kernel_rfl) ?_)
 refine rg_q (q_m rfl) ?_
 refine rg_q (q_call en61 (.cons rfl (.cons rfl (.cons rfl .nil))) rfl (bwithin_p _ _ _)) ?_
 refine rg_q (q_not rfl) (rg_q (q_m rfl) ?_)
 refine rg_g rfl rfl (fun hG => (q_m rfl)) ?_
 refine rg_g rfl rfl (fun hG => (q_call en61 (.cons rfl (.cons rfl (.cons rfl .nil))) rfl (bwithin_p _ _ _))) ?_
 refine rg_g rfl rfl (fun hG => (q_not rfl)) ?_
 refine rg_pick rfl rfl rfl rfl rfl rfl ?_
 refine rg_q (q_m rfl) ?_
 refine rg_g rfl rfl (fun hG => (q_m rfl)) ?_
 refine rg_g rfl rfl (fun hG => (q_call en61 (.cons rfl (.cons rfl (.cons rfl .nil))) rfl (bwithin_p _ _ _))) ?_
 refine rg_g rfl rfl (fun hG => (q_not rfl)) ?_
 refine rg_pick rfl rfl rfl rfl rfl rfl ?_
 refine rg_q (q_call en42 (.cons rfl (.cons rfl .nil)) rfl (when_p _ _)) ?_
 refine rg_q (q_a rfl) ?_
 refine rn ?_
 change Awp _ _ _ _ _
 refine awp_ret ?_
 refine ⟨_, (.cons (.tmp (by exact .d _)) .nil), ?_⟩
 unfold nzE; simp only [bif_or]; rfl
set_option maxRecDepth 100000 in
theorem noise1_i (x z : Int) (n : Nat) (hx : 0 ≤ x ∧ x ≤ 2147483647) (hz : 0 ≤ z ∧ z ≤ 200) : PIB Try.prog 62 (.int .i64 x) [.pt [.v (.int .i64 (z))] 0] (encI) (nzL z x n) false := by
  refine pib_of_iwp Try.func62 rfl Try.ntmps62 rfl rfl rfl fun J c l0 hJ hy hdat hfin => ?_
  refine iwp_block ?_
  refine iwp_loopH [4, 5, 6, 7, 8, 9, 10, 11, 12, 13, 14, 15, 16, 17, 18] [19] (β := Nat) (fun i => []) (fun i => [(19, .box [.v (.int .i64 (nzS x i))])]) (fun i => (true, nzL z x i)) (fun i => i ≤ n) (fun i => n - i) 0 (Nat.zero_le _) rfl (fun c1 => ?_) ?_
  · exact le_head (ms := [19]) (by repeat (exact Out.refl _)) trivial ⟨(by rfl), trivial⟩ rfl rfl rfl rfl
  ·
    intro i hi
    by_cases hlt : i < n
    rotate_left
    · have hin : i = n := by omega
      subst hin
      exact iwp_absurd (hfin rfl)
    have hs1 := nzS_in hx i
    have hs2 := nzX_in hs1
    have hf := nz_facts hs2 hz.1
    unfold nzX at hs2 hf
    have hpre : nzL z x i ++ [nzV z (nzS x (i + 1))] <+: nzL z x n := by rw [← nzL_succ]; exact nzL_pre z x hlt
    refine iwp_block ?_
    refine iwp_seq ?_
    apply iwp_reg hJ
    ·
      intro c1 hmine hrnd
      refine awp_region 4 mixed (by kernel_rfl) ?_
      refine rg_q (q_load_ref sz3 rfl rfl rfl) ?_
      refine rg_q (q_mul rfl rfl (In64.mk (by omega) (by omega))) ?_
      refine rg_q (q_add rfl rfl (In64.mk (by omega) (by omega))) ?_
      refine rg_q (q_rem rfl rfl (by omega)) ?_
      refine rg_nil ?_
      refine aops_store sz3 rfl rfl (by exact .inl rfl) rfl rfl (by simp; done) rfl ?_
      refine aops_nil ?_
      exact ⟨rfl, rfl⟩
    change Iwp _ _ _ _ _ _ _
    refine iwp_seq ?_
    refine iwp_regionD 9 mixed hJ (by kernel_rfl) (fun c1 hmine => ?_)
    refine rg_q (q_move (x := .d (.fn _ _)) rfl) (rg_q (q_load_ref sz3 rfl rfl rfl) ?_)
    refine rg_q (q_quo rfl rfl (by omega) (In64.mk (by omega) (by omega))) ?_
    refine rg_q (q_load sz3 rfl rfl) ?_
    refine rg_q (q_mul rfl rfl (In64.mk (by omega) (by omega))) ?_
    refine rg_q (q_add rfl rfl (In64.mk (by omega) (by omega))) ?_
    refine rg_q (q_rem rfl rfl (by omega)) ?_
    refine rg_q (q_load sz3 rfl rfl) ?_
    refine rg_q (q_sub rfl rfl (In64.mk (by omega) (by omega))) ?_
    refine rg_nil ?_
    refine iops_yield (x := (nzV z (nzS x (i + 1)))) hy hdat rfl (.cons rfl .nil) hpre rfl (fun yb => ?_)
    refine iops_of hJ rfl (fun c1 _ _ _ h => by exact aops_q rfl ((q_not rfl)) h) ?_
    refine iops_nil ?_
    change Iwp _ _ _ _ _ _ _
    refine iwp_cond rfl (fun hc1 => ?_) (fun hc1 => ?_)
    ·
      (try simp only [nb, ne_eq] at hc1)
      have hyb : yb = false := by cases yb <;> first | rfl | (exfalso; simp_all; done)
      refine iwp_ret ?_
      exact ⟨.inl rfl, fun h => by rw [hyb] at h; cases h⟩
    ·
      (try simp only [nb, ne_eq] at hc1)
      have hyb : yb = true := by cases yb <;> first | rfl | (exfalso; simp_all; done)
      refine iwp_skip ?_
      refine ⟨i + 1, by omega, by omega, by rw [hyb, nzL_succ], fun c1 => ?_⟩
      exact le_head (ms := [19]) (by repeat (first | exact Out.head rfl rfl | (refine Out.put ?_ rfl) | (refine Out.site ?_ rfl))) trivial ⟨(by rfl), trivial⟩ rfl rfl rfl rfl
set_option maxRecDepth 100000 in
theorem noise_p (x z : Int) : PCS Try.prog 32 [.d (.v (.int .i64 (x))), .d (.v (.int .i64 (z)))] [] (T.cl 0 62 [.pt [.v (.int .i64 (z))] 0]) [.box [.v (.int .i64 (x))]] := by
 refine pcs_of_awp Try.func32 rfl Try.ntmps32 (rs := [.tmp 4]) Try.results32 (by simp) fun w0 => ?_
 refine awp_seq ?_
 refine awp_region 0 mixed (by kernel_rfl) ?_
 refine rg_nil ?_
 refine aops_box rfl (by exact .inl rfl) rfl rfl rfl ?_
 refine aops_q rfl (q_box rfl (by exact .inl rfl)) ?_
 refine aops_q rfl (q_assign (x := .d (.v .nilFunc)) rfl) ?_
 refine aops_nil ?_
 change Awp _ _ _ _ _
 refine awp_seq ?_
 refine awp_region 2 mixed (by kernel_rfl) ?_
 refine rg_q (q_makeFuncB rfl (.cons rfl .nil)) ?_
 refine rg_q (q_assign (x := .own _ _ _ _) rfl) ?_
 refine rn ?_
 change Awp _ _ _ _ _
 refine awp_ret ?_
 exact end_mk (.inl rfl) [2] (.tmp rfl) (by repeat (first | exact trivial | refine ⟨rfl, ?_⟩)) rfl
set_option maxRecDepth 100000 in
theorem noiseP_p (s z c : Int) : PC Try.prog 7 [.v (.int .i64 (s)), .v (.int .i64 (z)), .v (.int .i64 (c))] (.tup [.sl 1 ((nzR s z c).1.map iC), .v (.int .i64 ((nzR s z c).2))]) := by
  refine pc_of_awpM Try.func7 rfl Try.ntmps7 (rs := [.tmp 6, .tmp 7]) Try.results7 (by simp) fun w0 hmine hrnd hpn => ?_
  refine awp_seq ?_
  refine awp_region 3 mixed (by kernel_rfl) ?_
  refine rg_q (q_box rfl (by exact .inl rfl)) ?_
  refine rg_q (q_assign (x := .d (.sl _ _)) rfl) (rg_q (q_a rfl) ?_)
  refine rn ?_
  change Awp _ _ _ _ _
  refine awp_seq ?_
  refine awp_seq ?_
  refine awp_region 5 mixed (by kernel_rfl) ?_
  refine rg_q (q_m rfl) (rg_q (q_m rfl) (rg_q (q_load sz3 rfl rfl) ?_))
  refine rg_q (q_call en31 (.cons rfl (.cons rfl (.cons rfl .nil))) rfl (noiseErr_p _ _ _)) ?_
  refine rg_q (q_a rfl) ?_
  refine rs (awp_region 6 mixed (by kernel_rfl) ?_)
  refine rg_q (q_m rfl) (rg_q (q_neq rfl rfl) (rg_q (q_m rfl) ?_))
  refine rg_g rfl rfl (fun hG => (q_load sz3 rfl rfl)) ?_
  refine rg_g rfl rfl (fun hG => (q_eql rfl rfl)) ?_
  refine rg_pick rfl rfl rfl rfl rfl rfl ?_
  refine rn ?_
  change Awp _ _ _ _ _
  refine awp_cond rfl (fun hc2 => ?_) (fun hc2 => ?_)
  ·
    (try simp only [nb, ne_eq] at hc2)
    have hr : nzR s z c = ([], nzE s z c) := by
      unfold nzR
      by_cases he : nzE s z c = 0
      · rcases hc2 with q | q
        · exact absurd he q
        · subst q; rw [if_neg (fun q => q he), he]; rfl
      · rw [if_pos he]
    refine awp_seq ?_
    refine awp_region 3 mixed (by kernel_rfl) ?_
    refine rg_q (q_m rfl) (rg_q (q_assign (x := .d (.sl _ _)) rfl) (rg_q (q_a rfl) ?_))
    refine rn ?_
    change Awp _ _ _ _ _
    refine awp_ret ?_
    refine ⟨_, (.cons (.tmp (by exact .d _)) (.cons (.tmp (by exact .d _)) .nil)), ?_⟩
    rw [hr]; rfl
  ·
    (try simp only [nb, ne_eq] at hc2)
    have he : nzE s z c = 0 := by omega
    have hb := nzE_zero.1 he
    have hr : nzR s z c = (nzL z s c.toNat, 0) := by unfold nzR; rw [if_neg (fun q => q he)]
    obtain ⟨n, hn⟩ : ∃ n : Nat, c = n := ⟨c.toNat, by omega⟩
    subst hn
    rw [Int.toNat_natCast] at hr
    have hn0 : 0 < n := by omega
    have hn1 : n ≤ 16384 := by omega
    refine awp_skip ?_
    change Awp _ _ _ _ _
    refine awp_seq ?_
    refine awp_region 0 mixed (by kernel_rfl) ?_
    refine rg_nil ?_
    refine aops_alloc zr23 rfl rfl rfl ?_
    refine aops_nil ?_
    change Awp _ _ _ _ _
    refine awp_seq ?_
    refine awp_seq ?_
    refine awp_region 2 mixed (by kernel_rfl) ?_
    refine rg_q (q_m rfl) (rg_q (q_m rfl) ?_)
    refine rg_nil ?_
    refine aops_callL [24] [] en32 (noise_p s z) (.cons rfl (.cons rfl .nil)) rfl rfl rfl (by repeat (exact trivial)) (by repeat (first | exact trivial | refine ⟨rfl, ?_⟩)) rfl ?_
    refine aops_nil ?_
    change Awp _ _ _ _ _
    refine awp_block ?_
    refine Awp.le (le_ownB 9 35 0 3 1 rfl rfl rfl) ?_
    refine awp_rangeBC (f := 62) (post := [.pt [.v (.int .i64 (z))] 0]) (u := .int .i64 s) (α := Int) (β := Nat) (n := 35) (enc := encI) (items := nzL z s n) 1000 [(5, .d (.pt [.v (.int .i64 ((n : Int)))] 0)), (9, .ref 9 0)] (fun x => [(9, .tbox [.rs 35]), (35, .row 3 1 ((nzL z s x).map iC))]) (fun k x => x = k ∧ k < n) (fun e x => e = Exit.exit 0 ∧ x = n) 0 24 24 hrnd hmine hpn ?_ (by rfl) en62 (noise1_i s z n hb.1 hb.2.1) rfl (fun _ => rfl) rfl (fun _ => by repeat first | exact trivial | refine ⟨by exact .v _, ?_⟩) (fun _ => rfl) ⟨rfl, hn0⟩ (fun _ x h => by rw [nzL_len] at h; exact absurd h.2 (Nat.lt_irrefl _)) ?_ ?_ ?_
    · exact le_cst (fun k => k) _ _ rfl ⟨(by first | rfl), (by first | rfl), (by first | rfl), trivial⟩ ⟨(by first | rfl), (by first | rfl), (by first | rfl), trivial⟩ rfl (fun k b h => by rw [hpn k] at h; cases h)
    ·
      intro w1 hw1 k x y hI hy
      obtain ⟨rfl, hk⟩ := hI
      have hyv : y = nzV z (nzS s (x + 1)) := by
        have h2 := (List.getElem?_eq_some_iff.1 hy).2
        rw [← h2]; unfold nzL; rw [List.getElem_map, List.getElem_range]
      have hs1 : (nzL z s x).map iC ++ [iC y] = (nzL z s (x + 1)).map iC := by rw [nzL_succ, List.map_append, hyv]; rfl
      have hsl := nzL_len z s x
      refine awp_region 1 mixed (by kernel_rfl) ?_
      refine rg_q (q_a rfl) ?_
      refine rn ?_
      refine ⟨rfl, fun w2 hw2 => ?_⟩
      refine awp_block ?_
      refine awp_seq ?_
      refine awp_region 3 mixed (by kernel_rfl) ?_
      refine rg_q (q_load_tb (x := .rs _) sz23 rfl rfl rfl) ?_
      refine rg_q (q_m rfl) ?_
      refine rg_q (q_buildSlice sl23 zr3 rfl rfl (by decide) (.cons rfl (by exact .inl rfl) .nil) ⟨rfl, rfl, trivial⟩ rfl (by decide) rfl) ?_
      refine rg_nil ?_
      refine aops_append sl23 zr3 by3 rfl (by decide) rfl rfl rfl rfl (by (try simp only [List.length_map, List.length_append, List.length_cons, List.length_nil]); omega) (by (try simp only [List.length_map, List.length_append, List.length_cons, List.length_nil]); omega) rfl rfl ?_
      refine aops_storeT (z := .rs _) sz23 rfl rfl rfl rfl (by decide) rfl ?_
      refine aops_nil ?_
      change Awp _ _ _ _ _
      refine awp_seq ?_
      refine awp_region 4 mixed (by kernel_rfl) ?_
      refine rg_q (q_load_tb (x := .rs _) sz23 rfl rfl rfl) ?_
      refine rg_q (q_len_rs isl23 rfl rfl) ?_
      refine rg_q (q_load sz3 rfl rfl) (rg_q (q_eql rfl rfl) ?_)
      refine rn ?_
      change Awp _ _ _ _ _
      skip
      (try simp only [List.length_map] at hl30)
      refine awp_cond rfl (fun hc8 => ?_) (fun hc8 => ?_)
      ·
        (try simp only [nb, ne_eq] at hc8)
        have hxe : x + 1 = n := by (try simp only [List.length_map, List.length_append, List.length_cons, List.length_nil, nzL_len] at hc8); omega
        refine awp_exit ?_
        refine .inr ⟨rfl, x + 1, ⟨rfl, hxe⟩, ?_⟩
        exact le_round [] _ hw2 rfl ⟨(by rfl), (by (show Site.row _ _ _ = Site.row _ _ _; rw [← hs1]; rfl)), trivial⟩ rfl
      ·
        (try simp only [nb, ne_eq] at hc8)
        have hxe : x + 1 < n := by (try simp only [List.length_map, List.length_append, List.length_cons, List.length_nil, nzL_len] at hc8); omega
        refine awp_skip ?_
        refine .inl ⟨rfl, x + 1, ⟨rfl, hxe⟩, ?_⟩
        exact le_round [] _ hw2 rfl ⟨(by rfl), (by (show Site.row _ _ _ = Site.row _ _ _; rw [← hs1]; rfl)), trivial⟩ rfl
    ·
      intro x hI
      exact absurd hI.2 (by rw [nzL_len]; exact Nat.lt_irrefl _)
    ·
      rintro e x (⟨rfl, hX⟩)
      ·
        subst hX
        change Awp _ _ _ _ _
        refine awp_seq ?_
        refine awp_region 3 mixed (by kernel_rfl) ?_
        refine rg_q (q_load_tb (x := .rs _) sz23 rfl rfl rfl) ?_
        refine rg_q (q_assign (x := .rs _) rfl) (rg_q (q_a rfl) ?_)
        refine rn ?_
        change Awp _ _ _ _ _
        refine awp_ret ?_
        refine ⟨_, (.cons (.tmp (by exact .rs rfl)) (.cons (.tmp (by exact .d _)) .nil)), ?_⟩
        rw [hr]; rfl
end Go.Proofs.Ytamaocfjknpadaa.Am.M
-- mini
namespace Go.Proofs.Ytamaocfjknpadaa.Am.M
open Go
def rnzE (s z : Int) : Int := whenI (!inR 0 s 2147483647 || !inR 0 z 200) 2
set_option maxRecDepth 100000 in
theorem rnoiseErr_p (s z : Int) : PC Try.prog 33 [.v (.int .i64 (s)), .v (.int .i64 (z))] (.v (.int .i64 (rnzE s z))) := by
 refine pc_of_awp Try.func33 rfl Try.ntmps33 (rs := [.tmp 4]) Try.results33 (by simp) fun w0 => ?_
 refine awp_seq ?_
 refine awp_region 1 mixed (by kernel_rfl) ?_
 refine rg_q (q_a rfl) ?_
 refine rn ?_
 change Awp _ _ _ _ _
 refine awp_seq ?_
 refine awp_seq ?_
 refine awp_region 8 mixed (by kernel_rfl) ?_
 refine rg_q (q_m rfl) ?_
 refine rg_q (q_call en10 (.cons rfl (.cons rfl (.cons rfl .nil))) rfl (within4_p _ _ _)) ?_
 refine rg_q (q_not rfl) (rg_q (q_m rfl) ?_)
 refine rg_g rfl rfl (fun hG => (q_m rfl)) ?_
 refine rg_g rfl rfl (fun hG => (q_call en10 (.cons rfl (.cons rfl (.cons rfl .nil))) rfl (within4_p _ _ _))) ?_
 refine rg_g rfl rfl (fun hG => (q_not rfl)) ?_
 refine rg_pick rfl rfl rfl rfl rfl rfl ?_
 refine rn ?_
 change Awp _ _ _ _ _
 refine awp_cond rfl (fun hc1 => ?_) (fun hc1 => ?_)
 ·
  (try simp only [nb, ne_eq] at hc1)
  have hz : rnzE s z = 2 := by unfold rnzE whenI; rw [if_pos (by simpa using hc1)]
  refine awp_seq ?_
  refine awp_region 1 mixed (by kernel_rfl) ?_
  refine rg_q (q_a rfl) ?_
  refine rn ?_
  change Awp _ _ _ _ _
  refine awp_ret ?_
  refine ⟨_, (.cons (.tmp (by exact .d _)) .nil), ?_⟩
  rw [hz]; rfl
 ·
  (try simp only [nb, ne_eq] at hc1)
  have hz : rnzE s z = 0 := by unfold rnzE whenI; rw [if_neg (by simpa using hc1)]
  refine awp_skip ?_
  change Awp _ _ _ _ _
  refine awp_seq ?_
  refine awp_region 1 mixed (by kernel_rfl) ?_
  refine rg_q (q_a rfl) ?_
  refine rn ?_
  change Awp _ _ _ _ _
  refine awp_ret ?_
  refine ⟨_, (.cons (.tmp (by exact .d _)) .nil), ?_⟩
  rw [hz]; rfl
set_option maxRecDepth 100000 in
theorem rnoise_p (s z : Int) (n : Nat) (hs : 0 ≤ s ∧ s ≤ 2147483647) (hz : 0 ≤ z ∧ z ≤ 200) (hn : n ≤ 16384) : PC Try.prog 34 [.v (.int .i64 (s)), .v (.int .i64 (z)), .v (.int .i64 ((n : Int)))] (.sl 1 ((nzL z s n).map iC)) := by
 refine pc_of_awp Try.func34 rfl Try.ntmps34 (rs := [.tmp 6]) Try.results34 (by simp) fun w0 => ?_
 refine awp_seq ?_
 refine awp_region 1 mixed (by kernel_rfl) ?_
 refine rg_q (q_assign (x := .d (.sl _ _)) rfl) ?_
 refine rs (awp_region 1 mixed (by kernel_rfl) ?_)
 refine rg_q (q_assign_nil) ?_
 refine rn ?_
 change Awp _ _ _ _ _
 refine Awp.le (le_own (k := 7) (e := 3) (sz := 1) rfl rfl) ?_
 refine awp_seq ?_
 refine awp_region 2 mixed (by kernel_rfl) ?_
 refine rg_q (q_m rfl) (rg_q (q_a rfl) ?_)
 refine rn ?_
 change Awp _ _ _ _ _
 refine awp_seq ?_
 refine awp_seq ?_
 refine awp_region 1 mixed (by kernel_rfl) ?_
 refine rg_q (q_a rfl) ?_
 refine rn ?_
 change Awp _ _ _ _ _
 refine awp_block ?_
 refine awp_loopH [7, 8, 9, 11, 12, 13, 14, 15, 16, 17, 18, 19, 20, 21, 22, 23, 24, 25, 26, 27, 28, 29, 30] [7] (α := Nat) (fun k => [(9, T.i (k : Int)), (8, T.i (nzS s k)), (7, .rs 7)]) (fun k => [(7, .row 3 1 ((nzL z s k).map iC))]) (fun k => k ≤ n) (fun k => n - k) 0 (Nat.zero_le _) ?_ ?_
 · exact le_head (ms := [7]) (by repeat (exact Out.refl _)) ⟨(by rfl), (by rfl), (by rfl), trivial⟩ ⟨(by rfl), trivial⟩ rfl rfl rfl rfl
 ·
  intro k hk
  have hsl0 := nzL_len z s k
  refine awp_seq ?_
  refine awp_seq ?_
  refine awp_region 3 mixed (by kernel_rfl) ?_
  refine rg_q (q_m rfl) (rg_q (q_m rfl) (rg_q (q_lss rfl rfl) ?_))
  refine rn ?_
  change Awp _ _ _ _ _
  refine awp_cond rfl (fun hc4 => ?_) (fun hc4 => ?_)
  ·
   (try simp only [nb, ne_eq] at hc4)
   have hs1 := nzS_in hs k
   have hs2 := nzX_in hs1
   have hf := nz_facts hs2 hz.1
   unfold nzX at hs2 hf
   have hsl := nzL_len z s k
   have hsk : (nzL z s (k + 1)).map iC = (nzL z s k).map iC ++ [iC (nzV z (nzS s (k + 1)))] := by rw [nzL_succ, List.map_append]; rfl
   refine awp_skip ?_
   change Awp _ _ _ _ _
   refine awp_seq ?_
   refine awp_block ?_
   refine awp_seq ?_
   refine awp_region 5 mixed (by kernel_rfl) ?_
   refine rg_q (q_m rfl) ?_
   refine rg_q (q_mul rfl rfl (In64.mk (by omega) (by omega))) ?_
   refine rg_q (q_add rfl rfl (In64.mk (by omega) (by omega))) ?_
   refine rg_q (q_rem rfl rfl (by omega)) ?_
   refine rg_q (q_a rfl) ?_
   refine rn ?_
   change Awp _ _ _ _ _
   refine awp_region 10 mixed (by kernel_rfl) ?_
   refine rg_q (q_move (x := .rs _) rfl) (rg_q (q_m rfl) ?_)
   refine rg_q (q_quo rfl rfl (by omega) (In64.mk (by omega) (by omega))) ?_
   refine rg_q (q_m rfl) ?_
   refine rg_q (q_mul rfl rfl (In64.mk (by omega) (by omega))) ?_
   refine rg_q (q_add rfl rfl (In64.mk (by omega) (by omega))) ?_
   refine rg_q (q_rem rfl rfl (by omega)) ?_
   refine rg_q (q_m rfl) ?_
   refine rg_q (q_sub rfl rfl (In64.mk (by omega) (by omega))) ?_
   refine rg_q (q_buildSlice sl23 zr3 rfl rfl (by decide) (.cons rfl (by exact .inl rfl) .nil) ⟨rfl, rfl, trivial⟩ rfl (by decide) rfl) ?_
   refine rg_nil ?_
   refine aops_append sl23 zr3 by3 rfl (by decide) rfl rfl rfl rfl (by (try simp only [List.length_map, List.length_append, List.length_cons, List.length_nil]); omega) (by (try simp only [List.length_map, List.length_append, List.length_cons, List.length_nil]); omega) rfl rfl ?_
   refine aops_q rfl (q_assign (x := .rs _) rfl) ?_
   refine aops_nil ?_
   change Awp _ _ _ _ _
   refine awp_region 3 mixed (by kernel_rfl) ?_
   refine rg_q (q_m rfl) ?_
   refine rg_q (q_add rfl rfl (In64.mk (by omega) (by omega))) ?_
   refine rg_q (q_a rfl) ?_
   refine rn ?_
   refine ⟨k + 1, by omega, by omega, ?_⟩
   exact le_head (ms := [7]) (by repeat (first | exact Out.head rfl rfl | (refine Out.put ?_ rfl) | (refine Out.site ?_ rfl) | (refine Out.killS ?_ rfl))) ⟨(by rfl), (by rfl), (by rfl), trivial⟩ ⟨(by ((show Site.row 3 1 _ = Site.row 3 1 _; rw [hsk]; rfl))), trivial⟩ rfl rfl rfl rfl
  ·
   (try simp only [nb, ne_eq] at hc4)
   have hkn : k = n := by omega
   subst hkn
   refine awp_exit ?_
   change Awp _ _ _ _ _
   refine awp_seq ?_
   refine awp_region 2 mixed (by kernel_rfl) ?_
   refine rg_q (q_move (x := .rs _) rfl) (rg_q (q_assign (x := .rs _) rfl) ?_)
   refine rn ?_
   change Awp _ _ _ _ _
   refine awp_ret ?_
   refine ⟨_, (.cons (.tmp (by exact .rs rfl)) .nil), ?_⟩
   rfl
end Go.Proofs.Ytamaocfjknpadaa.Am.M
-- mini
namespace Go.Proofs.Ytamaocfjknpadaa.Am.M
open Go

def nfC (v : Int) : List D := [fv v]
def nyV (l : List Nat) (nz : List Int) (k : Nat) : Int := vI (l.getD k 0) + nz.getD k 0
def nyC (l : List Nat) (nz : List Int) (i : Nat) : List Int := (List.range 64).map fun j => nyV l nz (64 * i + j)
def nyF (l : List Nat) (nz : List Int) (k : Nat) : List Int := (List.range k).map (nyV l nz)
theorem nyC_len (l : List Nat) (nz : List Int) (i : Nat) : (nyC l nz i).length = 64 := by unfold nyC; rw [List.length_map, List.length_range]
theorem nyF_len (l : List Nat) (nz : List Int) (k : Nat) : (nyF l nz k).length = k := by unfold nyF; rw [List.length_map, List.length_range]
theorem nyF_chunk (l : List Nat) (nz : List Int) (i : Nat) : nyF l nz (64 * (i + 1)) = nyF l nz (64 * i) ++ nyC l nz i := by
  unfold nyF nyC
  rw [show 64 * (i + 1) = 64 * i + 64 by omega, List.range_add, List.map_append, List.map_map]; rfl
theorem nyC_at (l : List Nat) (nz : List Int) (i : Nat) {j : Nat} (h : j < 64) : (nyC l nz i)[j]? = some (nyV l nz (64 * i + j)) := by
  unfold nyC
  rw [List.getElem?_map, List.getElem?_range h]; rfl
theorem nyV_of {l : List Nat} {nz : List Int} {k b : Nat} {u : Int} (h1 : l[k]? = some b) (h2 : nz[k]? = some u) : nyV l nz k = vI b + u := by
  unfold nyV
  rw [List.getD_eq_getElem?_getD, List.getD_eq_getElem?_getD, h1, h2]; rfl
theorem ny_any {l : List Nat} {nz : List Int} {i : Nat} (h : (nyF l nz (64 * i)).any bigB = false) : (nyF l nz (64 * (i + 1))).any bigB = (nyC l nz i).any bigB := by
  rw [nyF_chunk, List.any_append, h, Bool.false_or]
theorem ny_up {l : List Nat} {nz : List Int} {k : Nat} : ∀ {m : Nat}, k ≤ m → (nyF l nz m).any bigB = false → (nyF l nz k).any bigB = false := fun {m} hk h => by
  have e : nyF l nz k = (nyF l nz m).take k := by unfold nyF; rw [← List.map_take, List.take_range, Nat.min_eq_left hk]
  rw [e, List.any_eq_false]
  exact fun x hx => List.any_eq_false.1 h x (List.mem_of_mem_take hx)
theorem nyC_row (l : List Nat) (nz : List Int) (i : Nat) : (((nyC l nz i).map fv).map fun d => [d]) = (nyC l nz i).map nfC := by rw [List.map_map]; rfl
theorem nf_flat (S : List Int) : ∀ x ∈ S.map nfC, ∀ d ∈ x, D.Flat d := by
  intro x hx d hd
  obtain ⟨v, _, rfl⟩ := List.mem_map.1 hx
  rcases List.mem_singleton.1 hd with rfl
  exact .v _
def mx0 : List D := [.v (.int .i64 0), .v (.slice none 0 0)]
def nmC (ne : Int) (S : List Int) : List D := [.v (.int .i64 ne), .sl 1 (S.map nfC)]
theorem when80 {b : Bool} (h : whenI b 8 ≠ 0) : b = true := by cases b with | true => rfl | false => exact absurd rfl h
theorem when81 {b : Bool} (h : whenI b 8 = 0) : b = false := by cases b with | false => rfl | true => cases h
theorem nzL_in {s z : Int} {n : Nat} (h : nzE s z n = 0) : ∀ u ∈ nzL z s n, -200 ≤ u ∧ u ≤ 200 := by
  obtain ⟨b1, b2, _⟩ := nzE_zero.1 h
  intro u hu
  unfold nzL at hu
  obtain ⟨k, _, rfl⟩ := List.mem_map.1 hu
  have := nzV_in (nzS_in b1 (k + 1)) b2.1
  omega
set_option maxRecDepth 100000 in
theorem noisyE_p (ne : Int) (l : List Nat) (s z : Int) (n1 : 1 ≤ ne) (n2 : ne ≤ 16) (nl : (l.length : Int) = ne * ne * 64) (wh : WhlL l) (hE : nzE s z l.length ≠ 0) : PC Try.prog 22 [.agg (mtxC ne l), .v (.int .i64 (s)), .v (.int .i64 (z))] (.tup [.agg mx0, .v (.int .i64 (2))]) := by
 refine pc_of_awpN Try.func22 rfl Try.ntmps22 (rs := [.cell 6 66, .cell 7 24]) Try.results22 (by simp) fun w0 hmine hrnd hpn => ?_
 refine awp_seq ?_
 refine awp_region 1 mixed (by kernel_rfl) ?_
 refine rg_q (q_box rfl (by exact .inr ⟨_, rfl⟩)) ?_
 refine rg_nil ?_
 refine aops_alloc zr66 rfl rfl rfl ?_
 refine aops_alloc zr24 rfl rfl rfl ?_
 refine aops_nil ?_
 change Awp _ _ _ _ _
 refine awp_seq ?_
 refine awp_seq ?_
 refine awp_region 7 mixed (by kernel_rfl) ?_
 refine rg_q (q_loadA (ds := [_, _]) sz66 rfl rfl rfl) ?_
 refine rg_q (q_call en52 (.cons rfl .nil) rfl (checkMatrix_p ne l n1 n2 nl wh)) ?_
 refine rg_q (q_move (x := .d (.tup _)) rfl) (rg_q (q_extract rfl rfl) (rg_q (q_extract rfl rfl) (rg_q (q_a rfl) (rg_q (q_a rfl) ?_))))
 refine rs (awp_region 2 mixed (by kernel_rfl) ?_)
 refine rg_q (q_m rfl) (rg_q (q_neq rfl rfl) ?_)
 refine rn ?_
 change Awp _ _ _ _ _
 refine awp_cond rfl (fun hc2 => ?_) (fun hc2 => ?_)
 ·
  simp at hc2
 ·
  (try simp only [nb, ne_eq] at hc2)
  refine awp_skip ?_
  change Awp _ _ _ _ _
  refine awp_seq ?_
  refine awp_region 9 mixed (by kernel_rfl) ?_
  refine rg_q (q_m rfl) (rg_q (q_m rfl) (rg_q (q_fieldAddr fld66_1 rfl) (rg_q (q_load sz64 rfl rfl) ?_)))
  refine rg_q (q_len isl64 rfl (by exact len_map _ _)) ?_
  refine rg_q (q_call en7 (.cons rfl (.cons rfl (.cons rfl .nil))) rfl ((by have h := noiseP_p s z (l.length : Int); rw [nzR_err hE] at h; exact h))) ?_
  refine rg_q (q_move (x := .d (.tup _)) rfl) (rg_q (q_extract rfl rfl) (rg_q (q_extract rfl rfl) ?_))
  refine rg_nil ?_
  refine aops_allocD zr23 rfl sz23 rfl rfl (by exact .inl rfl) rfl rfl ?_
  refine aops_q rfl (q_a rfl) ?_
  refine aops_nil ?_
  change Awp _ _ _ _ _
  refine awp_len (t := 32) rfl (fun hl32 => ?_)
  (try simp only [List.length_map] at hl32)
  refine awp_seq ?_
  refine awp_seq ?_
  refine awp_region 2 mixed (by kernel_rfl) ?_
  refine rg_q (q_m rfl) (rg_q (q_neq rfl rfl) ?_)
  refine rn ?_
  change Awp _ _ _ _ _
  refine awp_cond rfl (fun hc5 => ?_) (fun hc5 => ?_)
  ·
   (try simp only [nb, ne_eq] at hc5)
   refine awp_seq ?_
   refine awp_region 2 mixed (by kernel_rfl) ?_
   refine rg_q (q_build (cs := [_, _]) pl66 zr66 rfl .nil trivial rfl) ?_
   refine rg_q (q_m rfl) ?_
   refine rg_nil ?_
   refine aops_store sz66 rfl rfl (by exact .inr ⟨_, rfl⟩) rfl rfl (by decide) rfl ?_
   refine aops_store sz24 rfl rfl (by exact .inl rfl) rfl rfl (by decide) rfl ?_
   refine aops_nil ?_
   change Awp _ _ _ _ _
   refine awp_ret ?_
   refine ⟨_, (.cons (.cellA rfl rfl sz66 rfl) (.cons (.cell1 rfl rfl sz24) .nil)), ?_⟩
   rfl
  ·
   simp at hc5
theorem whenI_t {b : Bool} (h : b = true) : whenI b 8 = 8 := by rw [h]; rfl
set_option maxRecDepth 100000 in
theorem noisyB_p (ne : Int) (l : List Nat) (s z : Int) (n1 : 1 ≤ ne) (n2 : ne ≤ 16) (nl : (l.length : Int) = ne * ne * 64) (wh : WhlL l) (m : Nat) (hm : l.length = 64 * m) (hm2 : m ≤ 256) (hE : nzE s z l.length = 0) (hB : (nyF l (nzL z s l.length) (64 * m)).any bigB = true) : PC Try.prog 22 [.agg (mtxC ne l), .v (.int .i64 (s)), .v (.int .i64 (z))] (.tup [.agg mx0, .v (.int .i64 (8))]) := by
 refine pc_of_awpN Try.func22 rfl Try.ntmps22 (rs := [.cell 6 66, .cell 7 24]) Try.results22 (by simp) fun w0 hmine hrnd hpn => ?_
 refine awp_seq ?_
 refine awp_region 1 mixed (by kernel_rfl) ?_
 refine rg_q (q_box rfl (by exact .inr ⟨_, rfl⟩)) ?_
 refine rg_nil ?_
 refine aops_alloc zr66 rfl rfl rfl ?_
 refine aops_alloc zr24 rfl rfl rfl ?_
 refine aops_nil ?_
 change Awp _ _ _ _ _
 refine awp_seq ?_
 refine awp_seq ?_
 refine awp_region 7 mixed (by kernel_rfl) ?_
 refine rg_q (q_loadA (ds := [_, _]) sz66 rfl rfl rfl) ?_
 refine rg_q (q_call en52 (.cons rfl .nil) rfl (checkMatrix_p ne l n1 n2 nl wh)) ?_
 refine rg_q (q_move (x := .d (.tup _)) rfl) (rg_q (q_extract rfl rfl) (rg_q (q_extract rfl rfl) (rg_q (q_a rfl) (rg_q (q_a rfl) ?_))))
 refine rs (awp_region 2 mixed (by kernel_rfl) ?_)
 refine rg_q (q_m rfl) (rg_q (q_neq rfl rfl) ?_)
 refine rn ?_
 change Awp _ _ _ _ _
 refine awp_cond rfl (fun hc2 => ?_) (fun hc2 => ?_)
 ·
  simp at hc2
 ·
  (try simp only [nb, ne_eq] at hc2)
  refine awp_skip ?_
  change Awp _ _ _ _ _
  refine awp_seq ?_
  refine awp_region 9 mixed (by kernel_rfl) ?_
  refine rg_q (q_m rfl) (rg_q (q_m rfl) (rg_q (q_fieldAddr fld66_1 rfl) (rg_q (q_load sz64 rfl rfl) ?_)))
  refine rg_q (q_len isl64 rfl (by exact len_map _ _)) ?_
  refine rg_q (q_call en7 (.cons rfl (.cons rfl (.cons rfl .nil))) rfl ((by have h := noiseP_p s z (l.length : Int); rw [nzR_ok hE] at h; exact h))) ?_
  refine rg_q (q_move (x := .d (.tup _)) rfl) (rg_q (q_extract rfl rfl) (rg_q (q_extract rfl rfl) ?_))
  refine rg_nil ?_
  refine aops_allocD zr23 rfl sz23 rfl rfl (by exact .inl rfl) rfl rfl ?_
  refine aops_q rfl (q_a rfl) ?_
  refine aops_nil ?_
  change Awp _ _ _ _ _
  refine awp_len (t := 32) rfl (fun hl32 => ?_)
  (try simp only [List.length_map] at hl32)
  refine awp_seq ?_
  refine awp_seq ?_
  refine awp_region 2 mixed (by kernel_rfl) ?_
  refine rg_q (q_m rfl) (rg_q (q_neq rfl rfl) ?_)
  refine rn ?_
  change Awp _ _ _ _ _
  refine awp_cond rfl (fun hc5 => ?_) (fun hc5 => ?_)
  ·
   simp at hc5
  ·
   (try simp only [nb, ne_eq] at hc5)
   refine awp_skip ?_
   change Awp _ _ _ _ _
   refine awp_seq ?_
   refine awp_region 3 mixed (by kernel_rfl) ?_
   refine rg_q (q_fieldAddr fld66_0 rfl) (rg_q (q_load sz3 rfl rfl) ?_)
   refine rg_q (q_build (cs := [_, _]) pl66 zr66 rfl (.cons rfl (by exact .inl rfl) .nil) ⟨⟨rfl, by decide⟩, trivial⟩ rfl) ?_
   refine rg_nil ?_
   refine aops_alloc zr66 rfl rfl rfl ?_
   refine aops_store sz66 rfl rfl (by exact .inr ⟨_, rfl⟩) rfl rfl (by decide) rfl ?_
   refine aops_nil ?_
   change Awp _ _ _ _ _
   refine awp_seq ?_
   refine awp_seq ?_
   refine awp_region 3 mixed (by kernel_rfl) ?_
   refine rg_q (q_fieldAddr fld66_1 rfl) (rg_q (q_load sz64 rfl rfl) ?_)
   refine rg_q (q_call en53 (.cons rfl (.cons rfl .nil)) rfl (chunk_p l)) ?_
   refine rn ?_
   change Awp _ _ _ _ _
   refine awp_block ?_
   refine Awp.le (le_ownB 12 80 1 52 1 rfl rfl rfl) ?_
   refine awp_rangeFC (α := List Nat) (β := Nat × Int) (n := 81) (enc := encK) (items := chF l m) 1000 [(6, .ref 6 0), (7, .ref 7 0), (10, .d (.pt [.sl 1 ((nzL z s l.length).map iC)] 0)), (12, .ref 12 0), (46, .d (.fn (.func 78) [.pt [.sl 1 (l.map fC)] 0, .pt [.v (.int .i64 (64))] 0]))] (fun x => [(6, .box [.v (.int .i64 (0)), .v (.slice none 0 0)]), (7, .box [.v (.int .i64 (x.2))]), (12, .tbox [.d (.v (.int .i64 (ne))), .rs 80]), (80, .row 52 1 ((nyF l (nzL z s l.length) (64 * x.1)).map nfC))]) (fun k x => x.1 = k ∧ x.2 = 0 ∧ (nyF l (nzL z s l.length) (64 * k)).any bigB = false) (fun e x => e = Exit.ret ∧ x.2 = 8) (0, 0) hrnd ?_ (.inr ⟨rfl, rfl⟩) en78 (chunk_i l m hm (by omega)) rfl (fun _ => rfl) rfl (fun x => fsl_mem (fsl_cons (fst_box (by repeat first | exact trivial | refine ⟨.v _, ?_⟩)) (fsl_cons (fst_box (by repeat first | exact trivial | refine ⟨.v _, ?_⟩)) (fsl_cons (fst_tbox (by repeat (first | exact ftl_nil | refine ftl_cons (by first | exact D.Flat.v _ | trivial) ?_))) (fsl_cons (nf_flat _) fsl_nil))))) (fun _ => rfl) ⟨rfl, rfl, rfl⟩ (fun h => by cases h) ?_ ?_ ?_
   · exact le_cst (fun k => k) _ _ rfl ⟨(by first | rfl), (by first | rfl), (by first | rfl), (by first | rfl), (by first | rfl), trivial⟩ ⟨(by first | rfl), (by first | rfl), (by first | rfl), (by first | rfl), trivial⟩ rfl (fun k b h => by rw [hpn k] at h; cases h)
   ·
    intro w1 hw1 k x y hI hy
    obtain ⟨h1, hv0, hf⟩ := hI
    obtain ⟨x, e0⟩ := x
    simp only at h1 hv0
    subst h1 hv0
    obtain ⟨hlt, rfl⟩ := chF_at hy
    have hlk := chK_len hm hlt
    have hSl := nyC_len l (nzL z s l.length) x
    have hFl := nyF_len l (nzL z s l.length) (64 * x)
    have hFl2 : ((nyF l (nzL z s l.length) (64 * x)).map nfC).length = 64 * x := by rw [List.length_map, hFl]
    have hFl3 : ((nyF l (nzL z s l.length) (64 * (x, (0 : Int)).1)).map nfC).length = 64 * x := hFl2
    have hzl := nzL_len z s l.length
    have hs1 : (nyF l (nzL z s l.length) (64 * x)).map nfC ++ (nyC l (nzL z s l.length) x).map nfC = (nyF l (nzL z s l.length) (64 * (x + 1))).map nfC := by rw [nyF_chunk, List.map_append]
    have han := ny_any hf
    refine awp_region 1 mixed (by kernel_rfl) ?_
    refine rg_q (q_assign (x := .d (.sl _ _)) rfl) ?_
    refine rn ?_
    refine ⟨rfl, fun w2 hw2 => ?_⟩
    refine awp_block ?_
    refine awp_seq ?_
    refine awp_region 0 mixed (by kernel_rfl) ?_
    refine rg_nil ?_
    refine aops_alloc zr101 rfl rfl rfl ?_
    refine aops_nil ?_
    change Awp _ _ _ _ _
    refine awp_seq ?_
    refine awp_seq ?_
    refine awp_region 4 mixed (by kernel_rfl) ?_
    refine rg_q (q_move (x := .d (.sl _ _)) rfl) ?_
    refine rg_q (q_toArr (cs := (chK l x).map fd) ar54 rfl (fd_row _).symm (by rw [List.length_map]; exact hlk) (by decide)) ?_
    refine rg_q (q_loadA (ds := (chK l x).map fd) sz54 rfl (by rw [List.drop_zero]; exact List.take_of_length_le (by rw [List.length_map, hlk]; exact Nat.le_refl _)) (by rw [List.length_map]; exact hlk)) ?_
    refine rg_q (q_m rfl) ?_
    refine rn ?_
    change Awp _ _ _ _ _
    refine awp_block ?_
    refine awp_loopH [15, 16, 51, 52, 53, 54, 55, 56, 57, 58, 59, 60, 61, 62, 63, 64, 65, 66, 67, 68] [14] (α := Nat) (fun j => [(51, T.i (j : Int))]) (fun j => [(14, .box (outN (nyC l (nzL z s l.length) x) j))]) (fun j => j ≤ 64) (fun j => 64 - j) 0 (Nat.zero_le _) ?_ ?_
    · exact le_head (ms := [14]) (by repeat (exact Out.refl _)) ⟨(by rfl), trivial⟩ ⟨(by rfl), trivial⟩ rfl rfl rfl rfl
    ·
     intro j hj0
     refine awp_seq ?_
     refine awp_region 1 mixed (by kernel_rfl) ?_
     refine rg_q (q_lss rfl rfl) ?_
     refine rn ?_
     change Awp _ _ _ _ _
     refine awp_seq ?_
     refine awp_cond rfl (fun hc12 => ?_) (fun hc12 => ?_)
     ·
      (try simp only [nb, ne_eq] at hc12)
      have hj : j < 64 := by omega
      have hkl : 64 * x + j < l.length := by omega
      obtain ⟨b, hb⟩ : ∃ b, l[64 * x + j]? = some b := ⟨_, List.getElem?_eq_getElem hkl⟩
      obtain ⟨u, hu⟩ : ∃ u, (nzL z s l.length)[64 * x + j]? = some u := ⟨_, List.getElem?_eq_getElem (by omega)⟩
      have hwb := wh b (List.mem_of_getElem? hb)
      have hw1 := hwb.lo
      have hw2 := hwb.hi
      have hub := nzL_in hE u (List.mem_of_getElem? hu)
      have hck : (chK l x)[j]? = some b := by
       unfold chK
       rw [List.getElem?_drop, List.getElem?_take_of_lt (by omega)]; exact hb
      have hidx : ((chK l x).map fd)[((j : Int)).toNat]? = some (fd b) := by rw [Int.toNat_natCast, List.getElem?_map, hck]; rfl
      have hst := outN_set hSl (nyC_at l (nzL z s l.length) x hj)
      rw [nyV_of hb hu] at hst
      have hol := outN_len (k := j) hSl (by omega)
      refine awp_skip ?_
      change Awp _ _ _ _ _
      refine awp_seq ?_
      refine awp_block ?_
      refine awp_seq ?_
      refine awp_region 4 mixed (by kernel_rfl) ?_
      refine rg_q (q_m rfl) ?_
      refine rg_q (q_index_ar ar54 sz52 rfl rfl (by omega) (by omega) hidx) ?_
      refine rg_q (q_a rfl) (rg_q (q_a rfl) ?_)
      refine rn ?_
      change Awp _ _ _ _ _
      refine awp_region 13 mixed (by kernel_rfl) ?_
      refine rg_q (q_m rfl) (rg_q (q_m rfl) ?_)
      refine rg_q (q_convfi flt52 int3 rfl hwb.int) ?_
      refine rg_q (q_load sz23 rfl rfl) (rg_q (q_fieldAddr_ref fld66_1 rfl) ?_)
      refine rg_q (q_load_tb (x := .rs _) sz64 rfl rfl rfl) ?_
      refine rg_q (q_len_rs isl64 rfl rfl) ?_
      refine rg_q (q_m rfl) ?_
      refine rg_q (q_add rfl rfl (In64.mk (by omega) (by omega))) ?_
      refine rg_q (q_indexAddr sl23 rfl rfl (by omega) (map_at (k := 64 * x + j) (by omega) hu)) ?_
      refine rg_q (q_load sz3 rfl rfl) ?_
      refine rg_q (q_add rfl rfl (In64.mk (by omega) (by omega))) ?_
      refine rg_q (q_indexAddr_aref ar101 rfl rfl (by omega) (by omega)) ?_
      refine rg_nil ?_
      refine aops_store (cs' := outN (nyC l (nzL z s l.length) x) (j + 1)) sz3 rfl rfl (by exact .inl rfl) rfl rfl (by rw [hol]; omega) hst ?_
      refine aops_nil ?_
      change Awp _ _ _ _ _
      skip
      (try simp only [List.length_map] at hl60)
      refine awp_region 2 mixed (by kernel_rfl) ?_
      refine rg_q (q_add rfl rfl (In64.mk (by omega) (by omega))) ?_
      refine rg_q (q_m rfl) ?_
      refine rn ?_
      refine ⟨j + 1, by omega, by omega, ?_⟩
      exact le_head (ms := [14]) (by repeat (first | exact Out.head rfl rfl | (refine Out.put ?_ rfl) | (refine Out.site ?_ rfl))) ⟨(by rfl), trivial⟩ ⟨(by rfl), trivial⟩ rfl rfl rfl rfl
     ·
      (try simp only [nb, ne_eq] at hc12)
      have hj64 : j = 64 := by omega
      subst hj64
      rw [outN_all hSl]
      refine awp_exit ?_
      change Awp _ _ _ _ _
      refine awp_seq ?_
      refine awp_seq ?_
      refine awp_region 2 mixed (by kernel_rfl) ?_
      refine rg_q (q_callF en54 (.cons (by exact .ref rfl) .nil) rfl (tooLarge_p _ (by assumption)) (by exact .v _)) ?_
      refine rg_q (q_a rfl) ?_
      refine rs (awp_region 2 mixed (by kernel_rfl) ?_)
      refine rg_q (q_m rfl) (rg_q (q_neq rfl rfl) ?_)
      refine rn ?_
      change Awp _ _ _ _ _
      refine awp_cond rfl (fun hc17 => ?_) (fun hc17 => ?_)
      ·
       (try simp only [nb, ne_eq] at hc17)
       have hb := when80 hc17
       have h8 := whenI_t hb
       rw [h8]
       refine awp_seq ?_
       refine awp_region 2 mixed (by kernel_rfl) ?_
       refine rg_q (q_build (cs := [_, _]) pl66 zr66 rfl .nil trivial rfl) ?_
       refine rg_q (q_m rfl) ?_
       refine rg_nil ?_
       refine aops_store sz66 rfl rfl (by exact .inr ⟨_, rfl⟩) rfl rfl (by decide) rfl ?_
       refine aops_store sz24 rfl rfl (by exact .inl rfl) rfl rfl (by simp; done) rfl ?_
       refine aops_nil ?_
       change Awp _ _ _ _ _
       refine awp_ret ?_
       refine .inr ⟨rfl, (x, 8), ⟨rfl, rfl⟩, ?_⟩
       exact le_round [] _ hw2 rfl ⟨(by rfl), (by rfl), (by rfl), (by rfl), trivial⟩ rfl
      ·
       (try simp only [nb, ne_eq] at hc17)
       have hb := when81 hc17
       refine awp_skip ?_
       change Awp _ _ _ _ _
       refine awp_seq ?_
       refine awp_region 1 mixed (by kernel_rfl) ?_
       refine rg_q (q_callF en45 (.cons (by exact .ref rfl) .nil) rfl (trace_p _ (by assumption)) (by exact D.Flat.aggF (by repeat first | exact trivial | refine ⟨.v _, ?_⟩))) ?_
       refine rg_nil ?_
       refine aops_allocD zr54 rfl sz54 rfl rfl (by exact .inr ⟨_, rfl⟩) (by show ((nyC l (nzL z s l.length) x).map fv).length = 64; rw [List.length_map, nyC_len]) rfl ?_
       refine aops_nil ?_
       change Awp _ _ _ _ _
       refine awp_early (i := 4) mixed rfl (by kernel_rfl) fld66_1 rfl ?_
       refine any_regionC 6 [0, 1, 3, 5] [1080, 1012] (by kernel_rfl) ?_
       refine rgc_c rfl rfl (c_q (q_fieldAddr_ref fld66_1 rfl)) ?_
       refine rgc_c rfl rfl (c_q (q_load_tb (x := .rs _) sz64 rfl rfl rfl)) ?_
       refine rgc_q rfl (q_sliceP (es := (nyC l (nzL z s l.length) x).map nfC) ar54 rfl (by show ((nyC l (nzL z s l.length) x).map fv).length = 64; rw [List.length_map, nyC_len]) (by decide) (by decide) (by show (((nyC l (nzL z s l.length) x).map fv).map fun d => [d]) = _; exact nyC_row _ _ _)) rfl ?_
       refine rgc_c rfl rfl (c_append (es' := (nyF l (nzL z s l.length) (64 * (x + 1))).map nfC) sl64 zr52 by52 rfl (by decide) rfl rfl rfl rfl (by (try simp only [List.length_map, List.length_append, List.length_cons, List.length_nil]); omega) (by (try simp only [List.length_map, List.length_append, List.length_cons, List.length_nil]); omega) hs1) ?_
       refine rgc_q rfl (q_move (x := .d (.v (.bool true))) rfl) rfl ?_
       refine rgc_c rfl rfl ((c_storeR sz64 rfl rfl rfl (by simp) rfl)) ?_
       refine rgc_nil ?_
       refine aops_nil ?_
       refine ⟨rfl, ?_⟩
       refine .inl ⟨rfl, (x + 1, 0), ⟨rfl, rfl, han.trans hb⟩, ?_⟩
       exact le_round [] _ hw2 rfl ⟨(by rfl), (by rfl), (by rfl), (by rfl), trivial⟩ rfl
   ·
    intro x hI
    obtain ⟨_, _, hf⟩ := hI
    have e : (chF l m).length = m := by unfold chF; rw [List.length_map, List.length_range]
    rw [e, hB] at hf
    cases hf
   ·
    rintro e x (⟨rfl, hX⟩)
    ·
     refine ⟨_, (.cons (.cellA rfl rfl sz66 rfl) (.cons (.cell1 rfl rfl sz24) .nil)), ?_⟩
     rw [hX]; rfl
set_option maxRecDepth 100000 in
theorem noisyOk_p (ne : Int) (l : List Nat) (s z : Int) (n1 : 1 ≤ ne) (n2 : ne ≤ 16) (nl : (l.length : Int) = ne * ne * 64) (wh : WhlL l) (m : Nat) (hm : l.length = 64 * m) (hm2 : m ≤ 256) (hE : nzE s z l.length = 0) (hB : (nyF l (nzL z s l.length) (64 * m)).any bigB = false) : PC Try.prog 22 [.agg (mtxC ne l), .v (.int .i64 (s)), .v (.int .i64 (z))] (.tup [.agg (nmC ne (nyF l (nzL z s l.length) (64 * m))), .v (.int .i64 (0))]) := by
 refine pc_of_awpN Try.func22 rfl Try.ntmps22 (rs := [.cell 6 66, .cell 7 24]) Try.results22 (by simp) fun w0 hmine hrnd hpn => ?_
 refine awp_seq ?_
 refine awp_region 1 mixed (by kernel_rfl) ?_
 refine rg_q (q_box rfl (by exact .inr ⟨_, rfl⟩)) ?_
 refine rg_nil ?_
 refine aops_alloc zr66 rfl rfl rfl ?_
 refine aops_alloc zr24 rfl rfl rfl ?_
 refine aops_nil ?_
 change Awp _ _ _ _ _
 refine awp_seq ?_
 refine awp_seq ?_
 refine awp_region 7 mixed (by kernel_rfl) ?_
 refine rg_q (q_loadA (ds := [_, _]) sz66 rfl rfl rfl) ?_
 refine rg_q (q_call en52 (.cons rfl .nil) rfl (checkMatrix_p ne l n1 n2 nl wh)) ?_
 refine rg_q (q_move (x := .d (.tup _)) rfl) (rg_q (q_extract rfl rfl) (rg_q (q_extract rfl rfl) (rg_q (q_a rfl) (rg_q (q_a rfl) ?_))))
 refine rs (awp_region 2 mixed (by kernel_rfl) ?_)
 refine rg_q (q_m rfl) (rg_q (q_neq rfl rfl) ?_)
 refine rn ?_
 change Awp _ _ _ _ _
 refine awp_cond rfl (fun hc2 => ?_) (fun hc2 => ?_)
 ·
  simp at hc2
 ·
  (try simp only [nb, ne_eq] at hc2)
  refine awp_skip ?_
  change Awp _ _ _ _ _
  refine awp_seq ?_
  refine awp_region 9 mixed (by kernel_rfl) ?_
  refine rg_q (q_m rfl) (rg_q (q_m rfl) (rg_q (q_fieldAddr fld66_1 rfl) (rg_q (q_load sz64 rfl rfl) ?_)))
  refine rg_q (q_len isl64 rfl (by exact len_map _ _)) ?_
  refine rg_q (q_call en7 (.cons rfl (.cons rfl (.cons rfl .nil))) rfl ((by have h := noiseP_p s z (l.length : Int); rw [nzR_ok hE] at h; exact h))) ?_
  refine rg_q (q_move (x := .d (.tup _)) rfl) (rg_q (q_extract rfl rfl) (rg_q (q_extract rfl rfl) ?_))
  refine rg_nil ?_
  refine aops_allocD zr23 rfl sz23 rfl rfl (by exact .inl rfl) rfl rfl ?_
  refine aops_q rfl (q_a rfl) ?_
  refine aops_nil ?_
  change Awp _ _ _ _ _
  refine awp_len (t := 32) rfl (fun hl32 => ?_)
  (try simp only [List.length_map] at hl32)
  refine awp_seq ?_
  refine awp_seq ?_
  refine awp_region 2 mixed (by kernel_rfl) ?_
  refine rg_q (q_m rfl) (rg_q (q_neq rfl rfl) ?_)
  refine rn ?_
  change Awp _ _ _ _ _
  refine awp_cond rfl (fun hc5 => ?_) (fun hc5 => ?_)
  ·
   simp at hc5
  ·
   (try simp only [nb, ne_eq] at hc5)
   refine awp_skip ?_
   change Awp _ _ _ _ _
   refine awp_seq ?_
   refine awp_region 3 mixed (by kernel_rfl) ?_
   refine rg_q (q_fieldAddr fld66_0 rfl) (rg_q (q_load sz3 rfl rfl) ?_)
   refine rg_q (q_build (cs := [_, _]) pl66 zr66 rfl (.cons rfl (by exact .inl rfl) .nil) ⟨⟨rfl, by decide⟩, trivial⟩ rfl) ?_
   refine rg_nil ?_
   refine aops_alloc zr66 rfl rfl rfl ?_
   refine aops_store sz66 rfl rfl (by exact .inr ⟨_, rfl⟩) rfl rfl (by decide) rfl ?_
   refine aops_nil ?_
   change Awp _ _ _ _ _
   refine awp_seq ?_
   refine awp_seq ?_
   refine awp_region 3 mixed (by kernel_rfl) ?_
   refine rg_q (q_fieldAddr fld66_1 rfl) (rg_q (q_load sz64 rfl rfl) ?_)
   refine rg_q (q_call en53 (.cons rfl (.cons rfl .nil)) rfl (chunk_p l)) ?_
   refine rn ?_
   change Awp _ _ _ _ _
   refine awp_block ?_
   refine Awp.le (le_ownB 12 80 1 52 1 rfl rfl rfl) ?_
   refine awp_rangeFC (α := List Nat) (β := Nat × Int) (n := 81) (enc := encK) (items := chF l m) 1000 [(6, .ref 6 0), (7, .ref 7 0), (10, .d (.pt [.sl 1 ((nzL z s l.length).map iC)] 0)), (12, .ref 12 0), (46, .d (.fn (.func 78) [.pt [.sl 1 (l.map fC)] 0, .pt [.v (.int .i64 (64))] 0]))] (fun x => [(6, .box [.v (.int .i64 (0)), .v (.slice none 0 0)]), (7, .box [.v (.int .i64 (x.2))]), (12, .tbox [.d (.v (.int .i64 (ne))), .rs 80]), (80, .row 52 1 ((nyF l (nzL z s l.length) (64 * x.1)).map nfC))]) (fun k x => x.1 = k ∧ x.2 = 0 ∧ (nyF l (nzL z s l.length) (64 * k)).any bigB = false) (fun e x => False) (0, 0) hrnd ?_ (.inr ⟨rfl, rfl⟩) en78 (chunk_i l m hm (by omega)) rfl (fun _ => rfl) rfl (fun x => fsl_mem (fsl_cons (fst_box (by repeat first | exact trivial | refine ⟨.v _, ?_⟩)) (fsl_cons (fst_box (by repeat first | exact trivial | refine ⟨.v _, ?_⟩)) (fsl_cons (fst_tbox (by repeat (first | exact ftl_nil | refine ftl_cons (by first | exact D.Flat.v _ | trivial) ?_))) (fsl_cons (nf_flat _) fsl_nil))))) (fun _ => rfl) ⟨rfl, rfl, rfl⟩ (fun h => by cases h) ?_ ?_ ?_
   · exact le_cst (fun k => k) _ _ rfl ⟨(by first | rfl), (by first | rfl), (by first | rfl), (by first | rfl), (by first | rfl), trivial⟩ ⟨(by first | rfl), (by first | rfl), (by first | rfl), (by first | rfl), trivial⟩ rfl (fun k b h => by rw [hpn k] at h; cases h)
   ·
    intro w1 hw1 k x y hI hy
    obtain ⟨h1, hv0, hf⟩ := hI
    obtain ⟨x, e0⟩ := x
    simp only at h1 hv0
    subst h1 hv0
    obtain ⟨hlt, rfl⟩ := chF_at hy
    have hlk := chK_len hm hlt
    have hSl := nyC_len l (nzL z s l.length) x
    have hFl := nyF_len l (nzL z s l.length) (64 * x)
    have hFl2 : ((nyF l (nzL z s l.length) (64 * x)).map nfC).length = 64 * x := by rw [List.length_map, hFl]
    have hFl3 : ((nyF l (nzL z s l.length) (64 * (x, (0 : Int)).1)).map nfC).length = 64 * x := hFl2
    have hzl := nzL_len z s l.length
    have hs1 : (nyF l (nzL z s l.length) (64 * x)).map nfC ++ (nyC l (nzL z s l.length) x).map nfC = (nyF l (nzL z s l.length) (64 * (x + 1))).map nfC := by rw [nyF_chunk, List.map_append]
    have han := ny_any hf
    refine awp_region 1 mixed (by kernel_rfl) ?_
    refine rg_q (q_assign (x := .d (.sl _ _)) rfl) ?_
    refine rn ?_
    refine ⟨rfl, fun w2 hw2 => ?_⟩
    refine awp_block ?_
    refine awp_seq ?_
    refine awp_region 0 mixed (by kernel_rfl) ?_
    refine rg_nil ?_
    refine aops_alloc zr101 rfl rfl rfl ?_
    refine aops_nil ?_
    change Awp _ _ _ _ _
    refine awp_seq ?_
    refine awp_seq ?_
    refine awp_region 4 mixed (by kernel_rfl) ?_
    refine rg_q (q_move (x := .d (.sl _ _)) rfl) ?_
    refine rg_q (q_toArr (cs := (chK l x).map fd) ar54 rfl (fd_row _).symm (by rw [List.length_map]; exact hlk) (by decide)) ?_
    refine rg_q (q_loadA (ds := (chK l x).map fd) sz54 rfl (by rw [List.drop_zero]; exact List.take_of_length_le (by rw [List.length_map, hlk]; exact Nat.le_refl _)) (by rw [List.length_map]; exact hlk)) ?_
    refine rg_q (q_m rfl) ?_
    refine rn ?_
    change Awp _ _ _ _ _
    refine awp_block ?_
    refine awp_loopH [15, 16, 51, 52, 53, 54, 55, 56, 57, 58, 59, 60, 61, 62, 63, 64, 65, 66, 67, 68] [14] (α := Nat) (fun j => [(51, T.i (j : Int))]) (fun j => [(14, .box (outN (nyC l (nzL z s l.length) x) j))]) (fun j => j ≤ 64) (fun j => 64 - j) 0 (Nat.zero_le _) ?_ ?_
    · exact le_head (ms := [14]) (by repeat (exact Out.refl _)) ⟨(by rfl), trivial⟩ ⟨(by rfl), trivial⟩ rfl rfl rfl rfl
    ·
     intro j hj0
     refine awp_seq ?_
     refine awp_region 1 mixed (by kernel_rfl) ?_
     refine rg_q (q_lss rfl rfl) ?_
     refine rn ?_
     change Awp _ _ _ _ _
     refine awp_seq ?_
     refine awp_cond rfl (fun hc12 => ?_) (fun hc12 => ?_)
     ·
      (try simp only [nb, ne_eq] at hc12)
      have hj : j < 64 := by omega
      have hkl : 64 * x + j < l.length := by omega
      obtain ⟨b, hb⟩ : ∃ b, l[64 * x + j]? = some b := ⟨_, List.getElem?_eq_getElem hkl⟩
      obtain ⟨u, hu⟩ : ∃ u, (nzL z s l.length)[64 * x + j]? = some u := ⟨_, List.getElem?_eq_getElem (by omega)⟩
      have hwb := wh b (List.mem_of_getElem? hb)
      have hw1 := hwb.lo
      have hw2 := hwb.hi
      have hub := nzL_in hE u (List.mem_of_getElem? hu)
      have hck : (chK l x)[j]? = some b := by
       unfold chK
       rw [List.getElem?_drop, List.getElem?_take_of_lt (by omega)]; exact hb
      have hidx : ((chK l x).map fd)[((j : Int)).toNat]? = some (fd b) := by rw [Int.toNat_natCast, List.getElem?_map, hck]; rfl
      have hst := outN_set hSl (nyC_at l (nzL z s l.length) x hj)
      rw [nyV_of hb hu] at hst
      have hol := outN_len (k := j) hSl (by omega)
      refine awp_skip ?_
      change Awp _ _ _ _ _
      refine awp_seq ?_
      refine awp_block ?_
      refine awp_seq ?_
      refine awp_region 4 mixed (by kernel_rfl) ?_
      refine rg_q (q_m rfl) ?_
      refine rg_q (q_index_ar ar54 sz52 rfl rfl (by omega) (by omega) hidx) ?_
      refine rg_q (q_a rfl) (rg_q (q_a rfl) ?_)
      refine rn ?_
      change Awp _ _ _ _ _
      refine awp_region 13 mixed (by kernel_rfl) ?_
      refine rg_q (q_m rfl) (rg_q (q_m rfl) ?_)
      refine rg_q (q_convfi flt52 int3 rfl hwb.int) ?_
      refine rg_q (q_load sz23 rfl rfl) (rg_q (q_fieldAddr_ref fld66_1 rfl) ?_)
      refine rg_q (q_load_tb (x := .rs _) sz64 rfl rfl rfl) ?_
      refine rg_q (q_len_rs isl64 rfl rfl) ?_
      refine rg_q (q_m rfl) ?_
      refine rg_q (q_add rfl rfl (In64.mk (by omega) (by omega))) ?_
      refine rg_q (q_indexAddr sl23 rfl rfl (by omega) (map_at (k := 64 * x + j) (by omega) hu)) ?_
      refine rg_q (q_load sz3 rfl rfl) ?_
      refine rg_q (q_add rfl rfl (In64.mk (by omega) (by omega))) ?_
      refine rg_q (q_indexAddr_aref ar101 rfl rfl (by omega) (by omega)) ?_
      refine rg_nil ?_
      refine aops_store (cs' := outN (nyC l (nzL z s l.length) x) (j + 1)) sz3 rfl rfl (by exact .inl rfl) rfl rfl (by rw [hol]; omega) hst ?_
      refine aops_nil ?_
      change Awp _ _ _ _ _
      skip
      (try simp only [List.length_map] at hl60)
      refine awp_region 2 mixed (by kernel_rfl) ?_
      refine rg_q (q_add rfl rfl (In64.mk (by omega) (by omega))) ?_
      refine rg_q (q_m rfl) ?_
      refine rn ?_
      refine ⟨j + 1, by omega, by omega, ?_⟩
      exact le_head (ms := [14]) (by repeat (first | exact Out.head rfl rfl | (refine Out.put ?_ rfl) | (refine Out.site ?_ rfl))) ⟨(by rfl), trivial⟩ ⟨(by rfl), trivial⟩ rfl rfl rfl rfl
     ·
      (try simp only [nb, ne_eq] at hc12)
      have hj64 : j = 64 := by omega
      subst hj64
      rw [outN_all hSl]
      refine awp_exit ?_
      change Awp _ _ _ _ _
      refine awp_seq ?_
      refine awp_seq ?_
      refine awp_region 2 mixed (by kernel_rfl) ?_
      refine rg_q (q_callF en54 (.cons (by exact .ref rfl) .nil) rfl (tooLarge_p _ (by assumption)) (by exact .v _)) ?_
      refine rg_q (q_a rfl) ?_
      refine rs (awp_region 2 mixed (by kernel_rfl) ?_)
      refine rg_q (q_m rfl) (rg_q (q_neq rfl rfl) ?_)
      refine rn ?_
      change Awp _ _ _ _ _
      refine awp_cond rfl (fun hc17 => ?_) (fun hc17 => ?_)
      ·
       exfalso
       have hb := when80 (of_decide_eq_true hc17)
       rw [← han, ny_up (show 64 * (x + 1) ≤ 64 * m by omega) hB] at hb
       cases hb
      ·
       (try simp only [nb, ne_eq] at hc17)
       have hb := when81 hc17
       refine awp_skip ?_
       change Awp _ _ _ _ _
       refine awp_seq ?_
       refine awp_region 1 mixed (by kernel_rfl) ?_
       refine rg_q (q_callF en45 (.cons (by exact .ref rfl) .nil) rfl (trace_p _ (by assumption)) (by exact D.Flat.aggF (by repeat first | exact trivial | refine ⟨.v _, ?_⟩))) ?_
       refine rg_nil ?_
       refine aops_allocD zr54 rfl sz54 rfl rfl (by exact .inr ⟨_, rfl⟩) (by show ((nyC l (nzL z s l.length) x).map fv).length = 64; rw [List.length_map, nyC_len]) rfl ?_
       refine aops_nil ?_
       change Awp _ _ _ _ _
       refine awp_early (i := 4) mixed rfl (by kernel_rfl) fld66_1 rfl ?_
       refine any_regionC 6 [0, 1, 3, 5] [1080, 1012] (by kernel_rfl) ?_
       refine rgc_c rfl rfl (c_q (q_fieldAddr_ref fld66_1 rfl)) ?_
       refine rgc_c rfl rfl (c_q (q_load_tb (x := .rs _) sz64 rfl rfl rfl)) ?_
       refine rgc_q rfl (q_sliceP (es := (nyC l (nzL z s l.length) x).map nfC) ar54 rfl (by show ((nyC l (nzL z s l.length) x).map fv).length = 64; rw [List.length_map, nyC_len]) (by decide) (by decide) (by show (((nyC l (nzL z s l.length) x).map fv).map fun d => [d]) = _; exact nyC_row _ _ _)) rfl ?_
       refine rgc_c rfl rfl (c_append (es' := (nyF l (nzL z s l.length) (64 * (x + 1))).map nfC) sl64 zr52 by52 rfl (by decide) rfl rfl rfl rfl (by (try simp only [List.length_map, List.length_append, List.length_cons, List.length_nil]); omega) (by (try simp only [List.length_map, List.length_append, List.length_cons, List.length_nil]); omega) hs1) ?_
       refine rgc_q rfl (q_move (x := .d (.v (.bool true))) rfl) rfl ?_
       refine rgc_c rfl rfl ((c_storeR sz64 rfl rfl rfl (by simp) rfl)) ?_
       refine rgc_nil ?_
       refine aops_nil ?_
       refine ⟨rfl, ?_⟩
       refine .inl ⟨rfl, (x + 1, 0), ⟨rfl, rfl, han.trans hb⟩, ?_⟩
       exact le_round [] _ hw2 rfl ⟨(by rfl), (by rfl), (by rfl), (by rfl), trivial⟩ rfl
   ·
    intro x hI
    obtain ⟨h1, hv0, hf⟩ := hI
    obtain ⟨x, e0⟩ := x
    simp only at h1 hv0
    have e : (chF l m).length = m := by unfold chF; rw [List.length_map, List.length_range]
    rw [e] at h1
    subst h1 hv0
    change Awp _ _ _ _ _
    refine awp_seq ?_
    refine Awp.le (le_freezeTB 12 80 1 rfl rfl rfl rfl hmine) ?_
    refine Awp.le (le_boxT 12 (nmC ne (nyF l (nzL z s l.length) (64 * x))) rfl rfl (by intro j d h; match j, h with | 0, h => cases h; rfl | 1, h => cases h; rfl)) ?_
    refine awp_region 1 mixed (by kernel_rfl) ?_
    refine rg_q (q_load_refA (ds := [_, _]) sz66 rfl rfl rfl rfl) ?_
    refine rg_nil ?_
    refine aops_store sz66 rfl rfl (by exact .inr ⟨_, rfl⟩) rfl rfl (by decide) rfl ?_
    refine aops_store sz24 rfl rfl (by exact .inl rfl) rfl rfl (by simp; done) rfl ?_
    refine aops_nil ?_
    change Awp _ _ _ _ _
    refine awp_ret ?_
    refine ⟨_, (.cons (.cellA rfl rfl sz66 rfl) (.cons (.cell1 rfl rfl sz24) .nil)), ?_⟩
    rfl
   ·
    exact fun e x h => h.elim
end Go.Proofs.Ytamaocfjknpadaa.Am.M
-- mini
namespace Go.Proofs.Ytamaocfjknpadaa.Am.M
open Go

theorem nyF_succ (l : List Nat) (nz : List Int) (k : Nat) : nyF l nz (k + 1) = nyF l nz k ++ [nyV l nz k] := by unfold nyF; rw [List.range_succ, List.map_append]; rfl
theorem ny_any1 {l : List Nat} {nz : List Int} {k : Nat} (h : (nyF l nz k).any bigB = false) : (nyF l nz (k + 1)).any bigB = bigB (nyV l nz k) := by
  rw [nyF_succ, List.any_append, h, Bool.false_or]; simp
theorem big_abs {n : Int} : bigB n = true ↔ 2047 < max n (-n) := by
  unfold bigB inR
  simp
  omega
theorem rnz_bad {s z c : Int} (h : nzE s z c ≠ 0) (h1 : 0 ≤ c) (h2 : c ≤ 16384) : rnzE s z = 2 := by
  unfold rnzE whenI
  rw [if_pos]
  have hc : inR 0 c 16384 = true := nz_inR.2 ⟨h1, h2⟩
  unfold nzE whenI at h
  rw [hc] at h
  cases q1 : inR 0 s 2147483647 <;> cases q2 : inR 0 z 200 <;> simp_all
theorem rnz_ok {s z c : Int} (h : nzE s z c = 0) : rnzE s z = 0 := by
  obtain ⟨b1, b2, b3⟩ := nzE_zero.1 h
  unfold rnzE; rw [nz_inR.2 b1, nz_inR.2 b2]; rfl
set_option maxRecDepth 100000 in
theorem rnoisyE_p (ne : Int) (l : List Nat) (s z : Int) (wh : WhlL l) (hl : l.length ≤ 16384) (hE : nzE s z l.length ≠ 0) : PC Try.prog 25 [.agg (mtxC ne l), .v (.int .i64 (s)), .v (.int .i64 (z))] (.tup [.agg mx0, .v (.int .i64 (2))]) := by
 have hr := rnz_bad hE (by omega) (by omega)
 refine pc_of_awpN Try.func25 rfl Try.ntmps25 (rs := [.cell 6 66, .tmp 7]) Try.results25 (by simp) fun w0 hmine hrnd hpn => ?_
 refine awp_seq ?_
 refine awp_region 1 mixed (by kernel_rfl) ?_
 refine rg_q (q_box rfl (by exact .inr ⟨_, rfl⟩)) ?_
 refine rg_nil ?_
 refine aops_alloc zr66 rfl rfl rfl ?_
 refine aops_q rfl (q_a rfl) ?_
 refine aops_nil ?_
 change Awp _ _ _ _ _
 refine awp_seq ?_
 refine awp_seq ?_
 refine awp_region 4 mixed (by kernel_rfl) ?_
 refine rg_q (q_m rfl) (rg_q (q_m rfl) ?_)
 refine rg_q (q_call en33 (.cons rfl (.cons rfl .nil)) rfl ((by have h := rnoiseErr_p s z; rw [hr] at h; exact h))) ?_
 refine rg_q (q_a rfl) ?_
 refine rs (awp_region 2 mixed (by kernel_rfl) ?_)
 refine rg_q (q_m rfl) (rg_q (q_neq rfl rfl) ?_)
 refine rn ?_
 change Awp _ _ _ _ _
 refine awp_cond rfl (fun hc2 => ?_) (fun hc2 => ?_)
 ·
  (try simp only [nb, ne_eq] at hc2)
  refine awp_seq ?_
  refine awp_region 2 mixed (by kernel_rfl) ?_
  refine rg_q (q_build (cs := [_, _]) pl66 zr66 rfl .nil trivial rfl) ?_
  refine rg_q (q_m rfl) ?_
  refine rg_nil ?_
  refine aops_store sz66 rfl rfl (by exact .inr ⟨_, rfl⟩) rfl rfl (by decide) rfl ?_
  refine aops_q rfl (q_a rfl) ?_
  refine aops_nil ?_
  change Awp _ _ _ _ _
  refine awp_ret ?_
  refine ⟨_, (.cons (.cellA rfl rfl sz66 rfl) (.cons (.tmp (by exact .d _)) .nil)), ?_⟩
  rfl
 ·
  simp at hc2
set_option maxRecDepth 100000 in
theorem rnoisyB_p (ne : Int) (l : List Nat) (s z : Int) (wh : WhlL l) (hl : l.length ≤ 16384) (hE : nzE s z l.length = 0) (hB : (nyF l (nzL z s l.length) l.length).any bigB = true) : PC Try.prog 25 [.agg (mtxC ne l), .v (.int .i64 (s)), .v (.int .i64 (z))] (.tup [.agg mx0, .v (.int .i64 (8))]) := by
 obtain ⟨b1, b2, b3⟩ := nzE_zero.1 hE
 have hr := rnz_ok hE
 have hzl := nzL_len z s l.length
 refine pc_of_awpN Try.func25 rfl Try.ntmps25 (rs := [.cell 6 66, .tmp 7]) Try.results25 (by simp) fun w0 hmine hrnd hpn => ?_
 refine awp_seq ?_
 refine awp_region 1 mixed (by kernel_rfl) ?_
 refine rg_q (q_box rfl (by exact .inr ⟨_, rfl⟩)) ?_
 refine rg_nil ?_
 refine aops_alloc zr66 rfl rfl rfl ?_
 refine aops_q rfl (q_a rfl) ?_
 refine aops_nil ?_
 change Awp _ _ _ _ _
 refine awp_seq ?_
 refine awp_seq ?_
 refine awp_region 4 mixed (by kernel_rfl) ?_
 refine rg_q (q_m rfl) (rg_q (q_m rfl) ?_)
 refine rg_q (q_call en33 (.cons rfl (.cons rfl .nil)) rfl ((by have h := rnoiseErr_p s z; rw [hr] at h; exact h))) ?_
 refine rg_q (q_a rfl) ?_
 refine rs (awp_region 2 mixed (by kernel_rfl) ?_)
 refine rg_q (q_m rfl) (rg_q (q_neq rfl rfl) ?_)
 refine rn ?_
 change Awp _ _ _ _ _
 refine awp_cond rfl (fun hc2 => ?_) (fun hc2 => ?_)
 ·
  simp at hc2
 ·
  (try simp only [nb, ne_eq] at hc2)
  refine awp_skip ?_
  change Awp _ _ _ _ _
  refine awp_seq ?_
  refine awp_region 7 mixed (by kernel_rfl) ?_
  refine rg_q (q_m rfl) (rg_q (q_m rfl) (rg_q (q_fieldAddr fld66_1 rfl) (rg_q (q_load sz64 rfl rfl) ?_)))
  refine rg_q (q_len isl64 rfl (by exact len_map _ _)) ?_
  refine rg_q (q_call en34 (.cons rfl (.cons rfl (.cons rfl .nil))) rfl (rnoise_p s z l.length b1 b2 hl)) ?_
  refine rg_q (q_assign (x := .d (.sl _ _)) rfl) ?_
  refine rn ?_
  change Awp _ _ _ _ _
  refine awp_len (t := 23) rfl (fun hl23 => ?_)
  (try simp only [List.length_map] at hl23)
  refine awp_seq ?_
  refine awp_region 3 mixed (by kernel_rfl) ?_
  refine rg_q (q_fieldAddr fld66_0 rfl) (rg_q (q_load sz3 rfl rfl) ?_)
  refine rg_q (q_build (cs := [_, _]) pl66 zr66 rfl (.cons rfl (by exact .inl rfl) .nil) ⟨⟨rfl, by decide⟩, trivial⟩ rfl) ?_
  refine rg_nil ?_
  refine aops_alloc zr66 rfl rfl rfl ?_
  refine aops_store sz66 rfl rfl (by exact .inr ⟨_, rfl⟩) rfl rfl (by decide) rfl ?_
  refine aops_nil ?_
  change Awp _ _ _ _ _
  refine Awp.le (le_ownB 10 58 1 52 1 rfl rfl rfl) ?_
  refine awp_seq ?_
  refine awp_seq ?_
  refine awp_region 1 mixed (by kernel_rfl) ?_
  refine rg_q (q_a rfl) ?_
  refine rn ?_
  change Awp _ _ _ _ _
  refine awp_block ?_
  refine awp_loopH [7, 11, 12, 29, 30, 31, 32, 33, 34, 35, 36, 37, 38, 39, 40, 41, 42, 43, 44, 45, 46, 47, 48, 49, 50, 51, 52, 53, 54, 55, 56, 57, 58] [10, 58] (α := Nat) (fun k => [(11, T.i (k : Int))]) (fun k => [(10, .tbox [.d (.v (.int .i64 (ne))), .rs 58]), (58, .row 52 1 ((nyF l (nzL z s l.length) k).map nfC))]) (fun k => k ≤ l.length ∧ (nyF l (nzL z s l.length) k).any bigB = false) (fun k => l.length - k) 0 ⟨Nat.zero_le _, rfl⟩ ?_ ?_
  · exact le_head (ms := [10, 58]) (by repeat (exact Out.refl _)) ⟨(by rfl), trivial⟩ ⟨(by rfl), (by rfl), trivial⟩ rfl rfl rfl rfl
  ·
   intro k ⟨hk, hf⟩
   have hFl0 := nyF_len l (nzL z s l.length) k
   refine awp_seq ?_
   refine awp_seq ?_
   refine awp_region 5 mixed (by kernel_rfl) ?_
   refine rg_q (q_m rfl) (rg_q (q_fieldAddr fld66_1 rfl) (rg_q (q_load sz64 rfl rfl) ?_))
   refine rg_q (q_len isl64 rfl (by exact len_map _ _)) ?_
   refine rg_q (q_lss rfl rfl) ?_
   refine rn ?_
   change Awp _ _ _ _ _
   refine awp_len (t := 31) rfl (fun hl31 => ?_)
   (try simp only [List.length_map] at hl31)
   refine awp_cond rfl (fun hc7 => ?_) (fun hc7 => ?_)
   ·
    (try simp only [nb, ne_eq] at hc7)
    have hkl : k < l.length := by omega
    obtain ⟨b, hb⟩ : ∃ b, l[k]? = some b := ⟨_, List.getElem?_eq_getElem hkl⟩
    obtain ⟨u, hu⟩ : ∃ u, (nzL z s l.length)[k]? = some u := ⟨_, List.getElem?_eq_getElem (by omega)⟩
    have hwb := wh b (List.mem_of_getElem? hb)
    have hw1 := hwb.lo
    have hw2 := hwb.hi
    have hub := nzL_in hE u (List.mem_of_getElem? hu)
    have hnv := nyV_of hb hu
    have han := ny_any1 hf
    rw [hnv] at han
    have hFl := nyF_len l (nzL z s l.length) k
    have hs1 : (nyF l (nzL z s l.length) k).map nfC ++ [nfC (vI b + u)] = (nyF l (nzL z s l.length) (k + 1)).map nfC := by rw [nyF_succ, hnv, List.map_append]; rfl
    refine awp_skip ?_
    change Awp _ _ _ _ _
    refine awp_seq ?_
    refine awp_block ?_
    refine awp_seq ?_
    refine awp_region 12 mixed (by kernel_rfl) ?_
    refine rg_q (q_fieldAddr fld66_1 rfl) (rg_q (q_load sz64 rfl rfl) (rg_q (q_m rfl) ?_))
    refine rg_q (q_indexAddr sl64 rfl rfl (by omega) (map_at (k := k) (by omega) hb)) ?_
    refine rg_q (q_load sz52 rfl rfl) ?_
    refine rg_q (q_convfi flt52 int3 rfl hwb.int) ?_
    refine rg_q (q_move (x := .d (.sl _ _)) rfl) (rg_q (q_m rfl) ?_)
    refine rg_q (q_indexAddr sl23 rfl rfl (by omega) (map_at (k := k) (by omega) hu)) ?_
    refine rg_q (q_load sz3 rfl rfl) ?_
    refine rg_q (q_add rfl rfl (In64.mk (by omega) (by omega))) ?_
    refine rg_q (q_a rfl) ?_
    refine rn ?_
    change Awp _ _ _ _ _
    refine awp_seq ?_
    refine awp_seq ?_
    refine awp_region 3 mixed (by kernel_rfl) ?_
    refine rg_q (q_m rfl) ?_
    refine rg_q (q_call en56 (.cons rfl .nil) rfl (size4_p _ (by omega) (by omega))) ?_
    refine rg_q (q_gtr rfl rfl) ?_
    refine rn ?_
    change Awp _ _ _ _ _
    refine awp_cond rfl (fun hc10 => ?_) (fun hc10 => ?_)
    ·
     (try simp only [nb, ne_eq] at hc10)
     refine awp_seq ?_
     refine awp_region 1 mixed (by kernel_rfl) ?_
     refine rg_q (q_build (cs := [_, _]) pl66 zr66 rfl .nil trivial rfl) ?_
     refine rg_nil ?_
     refine aops_store sz66 rfl rfl (by exact .inr ⟨_, rfl⟩) rfl rfl (by decide) rfl ?_
     refine aops_q rfl (q_a rfl) ?_
     refine aops_nil ?_
     change Awp _ _ _ _ _
     refine awp_ret ?_
     refine ⟨_, (.cons (.cellA rfl rfl sz66 rfl) (.cons (.tmp (by exact .d _)) .nil)), ?_⟩
     rfl
    ·
     (try simp only [nb, ne_eq] at hc10)
     have hnb : bigB (vI b + u) = false := by
      cases q : bigB (vI b + u) with
      | false => rfl
      | true => have := big_abs.1 q; omega
     refine awp_skip ?_
     change Awp _ _ _ _ _
     refine awp_region 5 mixed (by kernel_rfl) ?_
     refine rg_q (q_fieldAddr_ref fld66_1 rfl) ?_
     refine rg_q (q_load_tb (x := .rs _) sz64 rfl rfl rfl) ?_
     refine rg_q (q_m rfl) ?_
     refine rg_q (q_convf int3 flt52 rfl) ?_
     refine rg_q (q_buildSlice sl64 zr52 rfl rfl (by decide) (.cons rfl (by exact .inl rfl) .nil) ⟨rfl, rfl, trivial⟩ rfl (by decide) rfl) ?_
     refine rg_nil ?_
     refine aops_append sl64 zr52 by52 rfl (by decide) rfl rfl rfl rfl (by (try simp only [List.length_map, List.length_append, List.length_cons, List.length_nil]); omega) (by (try simp only [List.length_map, List.length_append, List.length_cons, List.length_nil]); omega) rfl rfl ?_
     refine aops_q rfl (q_fieldAddr_ref fld66_1 rfl) ?_
     refine aops_storeT (z := .rs _) sz64 rfl rfl rfl rfl (by simp) rfl ?_
     refine aops_nil ?_
     change Awp _ _ _ _ _
     refine awp_region 3 mixed (by kernel_rfl) ?_
     refine rg_q (q_m rfl) ?_
     refine rg_q (q_add rfl rfl (In64.mk (by omega) (by omega))) ?_
     refine rg_q (q_a rfl) ?_
     refine rn ?_
     refine ⟨k + 1, ⟨by omega, han.trans hnb⟩, by omega, ?_⟩
     exact le_head (ms := [10, 58]) (by repeat (first | exact Out.head rfl rfl | (refine Out.put ?_ rfl) | (refine Out.site ?_ rfl) | (refine Out.killS ?_ rfl))) ⟨(by rfl), trivial⟩ ⟨(by rfl), (by ((show Site.row _ _ _ = Site.row _ _ _; rw [← hs1]; rfl))), trivial⟩ rfl rfl rfl rfl
   ·
    exfalso
    have hc7 := of_decide_eq_false hc7
    have hkn : k = l.length := by (try simp only [List.length_map] at hc7); omega
    subst hkn
    rw [hB] at hf
    cases hf
set_option maxRecDepth 100000 in
theorem rnoisyOk_p (ne : Int) (l : List Nat) (s z : Int) (wh : WhlL l) (hl : l.length ≤ 16384) (hE : nzE s z l.length = 0) (hB : (nyF l (nzL z s l.length) l.length).any bigB = false) : PC Try.prog 25 [.agg (mtxC ne l), .v (.int .i64 (s)), .v (.int .i64 (z))] (.tup [.agg (nmC ne (nyF l (nzL z s l.length) l.length)), .v (.int .i64 (0))]) := by
 obtain ⟨b1, b2, b3⟩ := nzE_zero.1 hE
 have hr := rnz_ok hE
 have hzl := nzL_len z s l.length
 refine pc_of_awpN Try.func25 rfl Try.ntmps25 (rs := [.cell 6 66, .tmp 7]) Try.results25 (by simp) fun w0 hmine hrnd hpn => ?_
 refine awp_seq ?_
 refine awp_region 1 mixed (by kernel_rfl) ?_
 refine rg_q (q_box rfl (by exact .inr ⟨_, rfl⟩)) ?_
 refine rg_nil ?_
 refine aops_alloc zr66 rfl rfl rfl ?_
 refine aops_q rfl (q_a rfl) ?_
 refine aops_nil ?_
 change Awp _ _ _ _ _
 refine awp_seq ?_
 refine awp_seq ?_
 refine awp_region 4 mixed (by kernel_rfl) ?_
 refine rg_q (q_m rfl) (rg_q (q_m rfl) ?_)
 refine rg_q (q_call en33 (.cons rfl (.cons rfl .nil)) rfl ((by have h := rnoiseErr_p s z; rw [hr] at h; exact h))) ?_
 refine rg_q (q_a rfl) ?_
 refine rs (awp_region 2 mixed (by kernel_rfl) ?_)
 refine rg_q (q_m rfl) (rg_q (q_neq rfl rfl) ?_)
 refine rn ?_
 change Awp _ _ _ _ _
 refine awp_cond rfl (fun hc2 => ?_) (fun hc2 => ?_)
 ·
  simp at hc2
 ·
  (try simp only [nb, ne_eq] at hc2)
  refine awp_skip ?_
  change Awp _ _ _ _ _
  refine awp_seq ?_
  refine awp_region 7 mixed (by kernel_rfl) ?_
  refine rg_q (q_m rfl) (rg_q (q_m rfl) (rg_q (q_fieldAddr fld66_1 rfl) (rg_q (q_load sz64 rfl rfl) ?_)))
  refine rg_q (q_len isl64 rfl (by exact len_map _ _)) ?_
  refine rg_q (q_call en34 (.cons rfl (.cons rfl (.cons rfl .nil))) rfl (rnoise_p s z l.length b1 b2 hl)) ?_
  refine rg_q (q_assign (x := .d (.sl _ _)) rfl) ?_
  refine rn ?_
  change Awp _ _ _ _ _
  refine awp_len (t := 23) rfl (fun hl23 => ?_)
  (try simp only [List.length_map] at hl23)
  refine awp_seq ?_
  refine awp_region 3 mixed (by kernel_rfl) ?_
  refine rg_q (q_fieldAddr fld66_0 rfl) (rg_q (q_load sz3 rfl rfl) ?_)
  refine rg_q (q_build (cs := [_, _]) pl66 zr66 rfl (.cons rfl (by exact .inl rfl) .nil) ⟨⟨rfl, by decide⟩, trivial⟩ rfl) ?_
  refine rg_nil ?_
  refine aops_alloc zr66 rfl rfl rfl ?_
  refine aops_store sz66 rfl rfl (by exact .inr ⟨_, rfl⟩) rfl rfl (by decide) rfl ?_
  refine aops_nil ?_
  change Awp _ _ _ _ _
  refine Awp.le (le_ownB 10 58 1 52 1 rfl rfl rfl) ?_
  refine awp_seq ?_
  refine awp_seq ?_
  refine awp_region 1 mixed (by kernel_rfl) ?_
  refine rg_q (q_a rfl) ?_
  refine rn ?_
  change Awp _ _ _ _ _
  refine awp_block ?_
  refine awp_loopH [7, 11, 12, 29, 30, 31, 32, 33, 34, 35, 36, 37, 38, 39, 40, 41, 42, 43, 44, 45, 46, 47, 48, 49, 50, 51, 52, 53, 54, 55, 56, 57, 58] [10, 58] (α := Nat) (fun k => [(11, T.i (k : Int))]) (fun k => [(10, .tbox [.d (.v (.int .i64 (ne))), .rs 58]), (58, .row 52 1 ((nyF l (nzL z s l.length) k).map nfC))]) (fun k => k ≤ l.length ∧ (nyF l (nzL z s l.length) k).any bigB = false) (fun k => l.length - k) 0 ⟨Nat.zero_le _, rfl⟩ ?_ ?_
  · exact le_head (ms := [10, 58]) (by repeat (exact Out.refl _)) ⟨(by rfl), trivial⟩ ⟨(by rfl), (by rfl), trivial⟩ rfl rfl rfl rfl
  ·
   intro k ⟨hk, hf⟩
   have hFl0 := nyF_len l (nzL z s l.length) k
   refine awp_seq ?_
   refine awp_seq ?_
   refine awp_region 5 mixed (by kernel_rfl) ?_
   refine rg_q (q_m rfl) (rg_q (q_fieldAddr fld66_1 rfl) (rg_q (q_load sz64 rfl rfl) ?_))
   refine rg_q (q_len isl64 rfl (by exact len_map _ _)) ?_
   refine rg_q (q_lss rfl rfl) ?_
   refine rn ?_
   change Awp _ _ _ _ _
   refine awp_len (t := 31) rfl (fun hl31 => ?_)
   (try simp only [List.length_map] at hl31)
   refine awp_cond rfl (fun hc7 => ?_) (fun hc7 => ?_)
   ·
    (try simp only [nb, ne_eq] at hc7)
    have hkl : k < l.length := by omega
    obtain ⟨b, hb⟩ : ∃ b, l[k]? = some b := ⟨_, List.getElem?_eq_getElem hkl⟩
    obtain ⟨u, hu⟩ : ∃ u, (nzL z s l.length)[k]? = some u := ⟨_, List.getElem?_eq_getElem (by omega)⟩
    have hwb := wh b (List.mem_of_getElem? hb)
    have hw1 := hwb.lo
    have hw2 := hwb.hi
    have hub := nzL_in hE u (List.mem_of_getElem? hu)
    have hnv := nyV_of hb hu
    have han := ny_any1 hf
    rw [hnv] at han
    have hFl := nyF_len l (nzL z s l.length) k
    have hs1 : (nyF l (nzL z s l.length) k).map nfC ++ [nfC (vI b + u)] = (nyF l (nzL z s l.length) (k + 1)).map nfC := by rw [nyF_succ, hnv, List.map_append]; rfl
    refine awp_skip ?_
    change Awp _ _ _ _ _
    refine awp_seq ?_
    refine awp_block ?_
    refine awp_seq ?_
    refine awp_region 12 mixed (by kernel_rfl) ?_
    refine rg_q (q_fieldAddr fld66_1 rfl) (rg_q (q_load sz64 rfl rfl) (rg_q (q_m rfl) ?_))
    refine rg_q (q_indexAddr sl64 rfl rfl (by omega) (map_at (k := k) (by omega) hb)) ?_
    refine rg_q (q_load sz52 rfl rfl) ?_
    refine rg_q (q_convfi flt52 int3 rfl hwb.int) ?_
    refine rg_q (q_move (x := .d (.sl _ _)) rfl) (rg_q (q_m rfl) ?_)
    refine rg_q (q_indexAddr sl23 rfl rfl (by omega) (map_at (k := k) (by omega) hu)) ?_
    refine rg_q (q_load sz3 rfl rfl) ?_
    refine rg_q (q_add rfl rfl (In64.mk (by omega) (by omega))) ?_
    refine rg_q (q_a rfl) ?_
    refine rn ?_
    change Awp _ _ _ _ _
    refine awp_seq ?_
    refine awp_seq ?_
    refine awp_region 3 mixed (by kernel_rfl) ?_
    refine rg_q (q_m rfl) ?_
    refine rg_q (q_call en56 (.cons rfl .nil) rfl (size4_p _ (by omega) (by omega))) ?_
    refine rg_q (q_gtr rfl rfl) ?_
    refine rn ?_
    change Awp _ _ _ _ _
    refine awp_cond rfl (fun hc10 => ?_) (fun hc10 => ?_)
    ·
     exfalso
     have hc10 := of_decide_eq_true hc10
     have hq := big_abs.2 hc10
     rw [← han, ny_up (show k + 1 ≤ l.length by omega) hB] at hq
     cases hq
    ·
     (try simp only [nb, ne_eq] at hc10)
     have hnb : bigB (vI b + u) = false := by
      cases q : bigB (vI b + u) with
      | false => rfl
      | true => have := big_abs.1 q; omega
     refine awp_skip ?_
     change Awp _ _ _ _ _
     refine awp_region 5 mixed (by kernel_rfl) ?_
     refine rg_q (q_fieldAddr_ref fld66_1 rfl) ?_
     refine rg_q (q_load_tb (x := .rs _) sz64 rfl rfl rfl) ?_
     refine rg_q (q_m rfl) ?_
     refine rg_q (q_convf int3 flt52 rfl) ?_
     refine rg_q (q_buildSlice sl64 zr52 rfl rfl (by decide) (.cons rfl (by exact .inl rfl) .nil) ⟨rfl, rfl, trivial⟩ rfl (by decide) rfl) ?_
     refine rg_nil ?_
     refine aops_append sl64 zr52 by52 rfl (by decide) rfl rfl rfl rfl (by (try simp only [List.length_map, List.length_append, List.length_cons, List.length_nil]); omega) (by (try simp only [List.length_map, List.length_append, List.length_cons, List.length_nil]); omega) rfl rfl ?_
     refine aops_q rfl (q_fieldAddr_ref fld66_1 rfl) ?_
     refine aops_storeT (z := .rs _) sz64 rfl rfl rfl rfl (by simp) rfl ?_
     refine aops_nil ?_
     change Awp _ _ _ _ _
     refine awp_region 3 mixed (by kernel_rfl) ?_
     refine rg_q (q_m rfl) ?_
     refine rg_q (q_add rfl rfl (In64.mk (by omega) (by omega))) ?_
     refine rg_q (q_a rfl) ?_
     refine rn ?_
     refine ⟨k + 1, ⟨by omega, han.trans hnb⟩, by omega, ?_⟩
     exact le_head (ms := [10, 58]) (by repeat (first | exact Out.head rfl rfl | (refine Out.put ?_ rfl) | (refine Out.site ?_ rfl) | (refine Out.killS ?_ rfl))) ⟨(by rfl), trivial⟩ ⟨(by rfl), (by ((show Site.row _ _ _ = Site.row _ _ _; rw [← hs1]; rfl))), trivial⟩ rfl rfl rfl rfl
   ·
    (try simp only [nb, ne_eq] at hc7)
    have hkn : k = l.length := by omega
    subst hkn
    refine awp_exit ?_
    change Awp _ _ _ _ _
    refine awp_seq ?_
    refine Awp.le (le_freezeTB 10 58 1 rfl rfl rfl rfl hmine) ?_
    refine Awp.le (le_boxT 10 (nmC ne (nyF l (nzL z s l.length) l.length)) rfl rfl (by intro j d h; match j, h with | 0, h => cases h; rfl | 1, h => cases h; rfl)) ?_
    refine awp_region 1 mixed (by kernel_rfl) ?_
    refine rg_q (q_load_refA (ds := [_, _]) sz66 rfl rfl rfl rfl) ?_
    refine rg_nil ?_
    refine aops_store sz66 rfl rfl (by exact .inr ⟨_, rfl⟩) rfl rfl (by decide) rfl ?_
    refine aops_q rfl (q_a rfl) ?_
    refine aops_nil ?_
    change Awp _ _ _ _ _
    refine awp_ret ?_
    refine ⟨_, (.cons (.cellA rfl rfl sz66 rfl) (.cons (.tmp (by exact .d _)) .nil)), ?_⟩
    rfl
end Go.Proofs.Ytamaocfjknpadaa.Am.M
-- mini
namespace Go.Proofs.Ytamaocfjknpadaa.Am.M
open Go
set_option maxRecDepth 100000 in
theorem noisyM_p (ne : Int) (l : List Nat) (s z : Int) (hM : (ckM ne l).2 ≠ 0) : PC Try.prog 22 [.agg (mtxC ne l), .v (.int .i64 (s)), .v (.int .i64 (z))] (.tup [.agg mx0, .v (.int .i64 ((ckM ne l).2))]) := by
 refine pc_of_awpN Try.func22 rfl Try.ntmps22 (rs := [.cell 6 66, .cell 7 24]) Try.results22 (by simp) fun w0 hmine hrnd hpn => ?_
 refine awp_seq ?_
 refine awp_region 1 mixed (by kernel_rfl) ?_
 refine rg_q (q_box rfl (by exact .inr ⟨_, rfl⟩)) ?_
 refine rg_nil ?_
 refine aops_alloc zr66 rfl rfl rfl ?_
 refine aops_alloc zr24 rfl rfl rfl ?_
 refine aops_nil ?_
 change Awp _ _ _ _ _
 refine awp_seq ?_
 refine awp_seq ?_
 refine awp_region 7 mixed (by kernel_rfl) ?_
 refine rg_q (q_loadA (ds := [_, _]) sz66 rfl rfl rfl) ?_
 refine rg_q (q_call en52 (.cons rfl .nil) rfl (checkMatrix5_p ne l)) ?_
 refine rg_q (q_move (x := .d (.tup _)) rfl) (rg_q (q_extract rfl rfl) (rg_q (q_extract rfl rfl) (rg_q (q_a rfl) (rg_q (q_a rfl) ?_))))
 refine rs (awp_region 2 mixed (by kernel_rfl) ?_)
 refine rg_q (q_m rfl) (rg_q (q_neq rfl rfl) ?_)
 refine rn ?_
 change Awp _ _ _ _ _
 refine awp_cond rfl (fun hc2 => ?_) (fun hc2 => ?_)
 ·
  (try simp only [nb, ne_eq] at hc2)
  refine awp_seq ?_
  refine awp_region 2 mixed (by kernel_rfl) ?_
  refine rg_q (q_build (cs := [_, _]) pl66 zr66 rfl .nil trivial rfl) ?_
  refine rg_q (q_m rfl) ?_
  refine rg_nil ?_
  refine aops_store sz66 rfl rfl (by exact .inr ⟨_, rfl⟩) rfl rfl (by decide) rfl ?_
  refine aops_store sz24 rfl rfl (by exact .inl rfl) rfl rfl (by decide) rfl ?_
  refine aops_nil ?_
  change Awp _ _ _ _ _
  refine awp_ret ?_
  refine ⟨_, (.cons (.cellA rfl rfl sz66 rfl) (.cons (.cell1 rfl rfl sz24) .nil)), ?_⟩
  rfl
 ·
  exact absurd (Decidable.not_not.1 (of_decide_eq_false hc2)) hM

theorem nf_row (S : List Int) : (S.map FloatKind.f32.nearest).map fC = S.map nfC := by rw [List.map_map]; rfl
set_option maxRecDepth 100000 in
theorem sameNm_p (a : Int) (S : List Int) : PC Try.prog 26 [.agg (nmC a S), .agg (nmC a S)] (.v (.bool (true))) := by
 refine pc_of_awp Try.func26 rfl Try.ntmps26 (rs := [.tmp 4]) Try.results26 (by simp) fun w0 => ?_
 refine awp_seq ?_
 refine awp_region 3 mixed (by kernel_rfl) ?_
 refine rg_q (q_box rfl (by exact .inr ⟨_, rfl⟩)) ?_
 refine rg_q (q_box rfl (by exact .inr ⟨_, rfl⟩)) ?_
 refine rg_q (q_a rfl) ?_
 refine rs (awp_region 13 mixed (by kernel_rfl) ?_)
 refine rg_q (q_fieldAddr fld66_0 rfl) (rg_q (q_load sz3 rfl rfl) (rg_q (q_fieldAddr fld66_0 rfl) (rg_q (q_load sz3 rfl rfl) (rg_q (q_eql rfl rfl) (rg_q (q_m rfl) ?_)))))
 refine rg_g rfl rfl (fun hG => (q_fieldAddr fld66_1 rfl)) ?_
 refine rg_g rfl rfl (fun hG => (q_load sz64 rfl rfl)) ?_
 refine rg_g rfl rfl (fun hG => (q_fieldAddr fld66_1 rfl)) ?_
 refine rg_g rfl rfl (fun hG => (q_load sz64 rfl rfl)) ?_
 refine rg_g rfl rfl (fun hG => (q_call en49 (.cons rfl (.cons rfl .nil)) rfl ((by have h := sameFloats_p (S.map FloatKind.f32.nearest) (S.map FloatKind.f32.nearest); rw [nf_row] at h; exact h)))) ?_
 refine rg_pick rfl rfl rfl rfl rfl rfl ?_
 refine rg_q (q_a rfl) ?_
 refine rn ?_
 change Awp _ _ _ _ _
 refine awp_ret ?_
 refine ⟨_, (.cons (.tmp (by exact .d _)) .nil), ?_⟩
 simp [retD]
set_option maxRecDepth 100000 in
theorem benchNoisyM_p (ne : Int) (l : List Nat) (s z : Int) (hM : (ckM ne l).2 ≠ 0) : PC Try.prog 5 [.agg (mtxC ne l), .v (.int .i64 (s)), .v (.int .i64 (z))] (.v (.bool (true))) := by
 refine pc_of_awpN Try.func5 rfl Try.ntmps5 (rs := [.tmp 6]) Try.results5 (by simp) fun w0 hmine hrnd hpn => ?_
 refine awp_seq ?_
 refine awp_region 2 mixed (by kernel_rfl) ?_
 refine rg_q (q_box rfl (by exact .inr ⟨_, rfl⟩)) ?_
 refine rg_q (q_a rfl) ?_
 refine rn ?_
 change Awp _ _ _ _ _
 refine awp_seq ?_
 refine awp_seq ?_
 refine awp_region 2 mixed (by kernel_rfl) ?_
 refine rg_q (q_call en6 .nil rfl (awake_p)) ?_
 refine rg_q (q_not rfl) ?_
 refine rn ?_
 change Awp _ _ _ _ _
 refine awp_cond rfl (fun hc1 => ?_) (fun hc1 => ?_)
 ·
  simp at hc1
 ·
  (try simp only [nb, ne_eq] at hc1)
  refine awp_skip ?_
  change Awp _ _ _ _ _
  refine awp_seq ?_
  refine awp_seq ?_
  refine awp_region 4 mixed (by kernel_rfl) ?_
  refine rg_q (q_fieldAddr fld66_1 rfl) (rg_q (q_load sz64 rfl rfl) ?_)
  refine rg_q (q_len isl64 rfl (by exact len_map _ _)) ?_
  refine rg_q (q_gtr rfl rfl) ?_
  refine rn ?_
  change Awp _ _ _ _ _
  refine awp_len (t := 15) rfl (fun hl15 => ?_)
  (try simp only [List.length_map] at hl15)
  refine awp_cond rfl (fun hc3 => ?_) (fun hc3 => ?_)
  ·
   (try simp only [nb, ne_eq] at hc3)
   have hl0 := hc3
   refine awp_seq ?_
   refine awp_region 1 mixed (by kernel_rfl) ?_
   refine rg_q (q_a rfl) ?_
   refine rn ?_
   change Awp _ _ _ _ _
   refine awp_ret ?_
   refine ⟨_, (.cons (.tmp (by exact .d _)) .nil), ?_⟩
   rfl
  ·
   (try simp only [nb, ne_eq] at hc3)
   have hl260 : l.length ≤ 260 := by omega
   refine awp_skip ?_
   change Awp _ _ _ _ _
   refine awp_seq ?_
   refine awp_region 8 mixed (by kernel_rfl) ?_
   refine rg_q (q_loadA (ds := [_, _]) sz66 rfl rfl rfl) ?_
   refine rg_q (q_call en23 (.cons rfl .nil) rfl (copyMatrix5_p ne l (by omega))) ?_
   refine rg_q (q_m rfl) (rg_q (q_m rfl) ?_)
   refine rg_q (q_call en22 (.cons rfl (.cons rfl (.cons rfl .nil))) rfl (noisyM_p ne l s z hM)) ?_
   refine rg_q (q_move (x := .d (.tup _)) rfl) (rg_q (q_extract rfl rfl) (rg_q (q_extract rfl rfl) ?_))
   refine rg_nil ?_
   refine aops_alloc zr66 rfl rfl rfl ?_
   refine aops_store sz66 rfl rfl (by exact .inr ⟨_, rfl⟩) rfl rfl (by decide) rfl ?_
   refine aops_q rfl (q_a rfl) ?_
   refine aops_nil ?_
   change Awp _ _ _ _ _
   refine awp_seq ?_
   refine awp_region 7 mixed (by kernel_rfl) ?_
   refine rg_q (q_loadA (ds := [_, _]) sz66 rfl rfl rfl) ?_
   refine rg_q (q_call en24 (.cons rfl .nil) rfl (rcheckMatrix5_p ne l)) ?_
   refine rg_q (q_move (x := .d (.tup _)) rfl) (rg_q (q_extract rfl rfl) (rg_q (q_extract rfl rfl) (rg_q (q_a rfl) (rg_q (q_a rfl) ?_))))
   refine rs (awp_region 0 mixed (by kernel_rfl) ?_)
   refine rg_nil ?_
   refine aops_alloc zr66 rfl rfl rfl ?_
   refine aops_nil ?_
   change Awp _ _ _ _ _
   refine awp_seq ?_
   refine awp_seq ?_
   refine awp_region 2 mixed (by kernel_rfl) ?_
   refine rg_q (q_m rfl) (rg_q (q_eql rfl rfl) ?_)
   refine rn ?_
   change Awp _ _ _ _ _
   refine awp_cond rfl (fun hc8 => ?_) (fun hc8 => ?_)
   ·
    exact absurd (of_decide_eq_true hc8) hM
   ·
    (try simp only [nb, ne_eq] at hc8)
    refine awp_skip ?_
    change Awp _ _ _ _ _
    refine awp_seq ?_
    refine Awp.le (le_upB 7 (nmC 0 []) rfl (.cons (.same _) (.cons (.nil 1) .nil))) ?_
    refine Awp.le (le_upB 11 (nmC 0 []) rfl (.cons (.same _) (.cons (.nil 1) .nil))) ?_
    refine awp_region 9 mixed (by kernel_rfl) ?_
    refine rg_q (q_m rfl) (rg_q (q_m rfl) (rg_q (q_eql rfl rfl) (rg_q (q_m rfl) ?_)))
    refine rg_g rfl rfl (fun hG => (q_load_refA (ds := [_, _]) sz66 rfl rfl rfl rfl)) ?_
    refine rg_g rfl rfl (fun hG => (q_load_refA (ds := [_, _]) sz66 rfl rfl rfl rfl)) ?_
    refine rg_g rfl rfl (fun hG => (q_call en26 (.cons rfl (.cons rfl .nil)) rfl (sameNm_p _ _))) ?_
    refine rg_pick rfl rfl rfl rfl rfl rfl ?_
    refine rg_q (q_a rfl) ?_
    refine rn ?_
    change Awp _ _ _ _ _
    refine awp_ret ?_
    refine ⟨_, (.cons (.tmp (by exact .d _)) .nil), ?_⟩
    simp [retD]
set_option maxRecDepth 100000 in
theorem benchNoisyE_p (ne : Int) (l : List Nat) (s z : Int) (n1 : 1 ≤ ne) (n2 : ne ≤ 16) (nl : (l.length : Int) = ne * ne * 64) (wh : WhlL l) (hk : ckM ne l = (0, 0)) (hl : l.length ≤ 16384) (hE : nzE s z l.length ≠ 0) : PC Try.prog 5 [.agg (mtxC ne l), .v (.int .i64 (s)), .v (.int .i64 (z))] (.v (.bool (true))) := by
 refine pc_of_awpN Try.func5 rfl Try.ntmps5 (rs := [.tmp 6]) Try.results5 (by simp) fun w0 hmine hrnd hpn => ?_
 refine awp_seq ?_
 refine awp_region 2 mixed (by kernel_rfl) ?_
 refine rg_q (q_box rfl (by exact .inr ⟨_, rfl⟩)) ?_
 refine rg_q (q_a rfl) ?_
 refine rn ?_
 change Awp _ _ _ _ _
 refine awp_seq ?_
 refine awp_seq ?_
 refine awp_region 2 mixed (by kernel_rfl) ?_
 refine rg_q (q_call en6 .nil rfl (awake_p)) ?_
 refine rg_q (q_not rfl) ?_
 refine rn ?_
 change Awp _ _ _ _ _
 refine awp_cond rfl (fun hc1 => ?_) (fun hc1 => ?_)
 ·
  simp at hc1
 ·
  (try simp only [nb, ne_eq] at hc1)
  refine awp_skip ?_
  change Awp _ _ _ _ _
  refine awp_seq ?_
  refine awp_seq ?_
  refine awp_region 4 mixed (by kernel_rfl) ?_
  refine rg_q (q_fieldAddr fld66_1 rfl) (rg_q (q_load sz64 rfl rfl) ?_)
  refine rg_q (q_len isl64 rfl (by exact len_map _ _)) ?_
  refine rg_q (q_gtr rfl rfl) ?_
  refine rn ?_
  change Awp _ _ _ _ _
  refine awp_len (t := 15) rfl (fun hl15 => ?_)
  (try simp only [List.length_map] at hl15)
  refine awp_cond rfl (fun hc3 => ?_) (fun hc3 => ?_)
  ·
   (try simp only [nb, ne_eq] at hc3)
   have hl0 := hc3
   refine awp_seq ?_
   refine awp_region 1 mixed (by kernel_rfl) ?_
   refine rg_q (q_a rfl) ?_
   refine rn ?_
   change Awp _ _ _ _ _
   refine awp_ret ?_
   refine ⟨_, (.cons (.tmp (by exact .d _)) .nil), ?_⟩
   rfl
  ·
   (try simp only [nb, ne_eq] at hc3)
   have hl260 : l.length ≤ 260 := by omega
   refine awp_skip ?_
   change Awp _ _ _ _ _
   refine awp_seq ?_
   refine awp_region 8 mixed (by kernel_rfl) ?_
   refine rg_q (q_loadA (ds := [_, _]) sz66 rfl rfl rfl) ?_
   refine rg_q (q_call en23 (.cons rfl .nil) rfl (copyMatrix5_p ne l (by omega))) ?_
   refine rg_q (q_m rfl) (rg_q (q_m rfl) ?_)
   refine rg_q (q_call en22 (.cons rfl (.cons rfl (.cons rfl .nil))) rfl (noisyE_p ne l s z n1 n2 nl wh hE)) ?_
   refine rg_q (q_move (x := .d (.tup _)) rfl) (rg_q (q_extract rfl rfl) (rg_q (q_extract rfl rfl) ?_))
   refine rg_nil ?_
   refine aops_alloc zr66 rfl rfl rfl ?_
   refine aops_store sz66 rfl rfl (by exact .inr ⟨_, rfl⟩) rfl rfl (by decide) rfl ?_
   refine aops_q rfl (q_a rfl) ?_
   refine aops_nil ?_
   change Awp _ _ _ _ _
   refine awp_seq ?_
   refine awp_region 7 mixed (by kernel_rfl) ?_
   refine rg_q (q_loadA (ds := [_, _]) sz66 rfl rfl rfl) ?_
   refine rg_q (q_call en24 (.cons rfl .nil) rfl ((by have h := rcheckMatrix5_p ne l; rw [hk] at h; exact h))) ?_
   refine rg_q (q_move (x := .d (.tup _)) rfl) (rg_q (q_extract rfl rfl) (rg_q (q_extract rfl rfl) (rg_q (q_a rfl) (rg_q (q_a rfl) ?_))))
   refine rs (awp_region 0 mixed (by kernel_rfl) ?_)
   refine rg_nil ?_
   refine aops_alloc zr66 rfl rfl rfl ?_
   refine aops_nil ?_
   change Awp _ _ _ _ _
   refine awp_seq ?_
   refine awp_seq ?_
   refine awp_region 2 mixed (by kernel_rfl) ?_
   refine rg_q (q_m rfl) (rg_q (q_eql rfl rfl) ?_)
   refine rn ?_
   change Awp _ _ _ _ _
   refine awp_cond rfl (fun hc8 => ?_) (fun hc8 => ?_)
   ·
    (try simp only [nb, ne_eq] at hc8)
    refine awp_region 7 mixed (by kernel_rfl) ?_
    refine rg_q (q_loadA (ds := [_, _]) sz66 rfl rfl rfl) ?_
    refine rg_q (q_m rfl) (rg_q (q_m rfl) ?_)
    refine rg_q (q_call en25 (.cons rfl (.cons rfl (.cons rfl .nil))) rfl (rnoisyE_p ne l s z wh hl hE)) ?_
    refine rg_q (q_move (x := .d (.tup _)) rfl) (rg_q (q_extract rfl rfl) (rg_q (q_extract rfl rfl) ?_))
    refine rg_nil ?_
    refine aops_store sz66 rfl rfl (by exact .inr ⟨_, rfl⟩) rfl rfl (by decide) rfl ?_
    refine aops_q rfl (q_a rfl) ?_
    refine aops_nil ?_
    change Awp _ _ _ _ _
    refine awp_seq ?_
    refine Awp.le (le_upB 7 (nmC 0 []) rfl (.cons (.same _) (.cons (.nil 1) .nil))) ?_
    refine Awp.le (le_upB 11 (nmC 0 []) rfl (.cons (.same _) (.cons (.nil 1) .nil))) ?_
    refine awp_region 9 mixed (by kernel_rfl) ?_
    refine rg_q (q_m rfl) (rg_q (q_m rfl) (rg_q (q_eql rfl rfl) (rg_q (q_m rfl) ?_)))
    refine rg_g rfl rfl (fun hG => (q_load_refA (ds := [_, _]) sz66 rfl rfl rfl rfl)) ?_
    refine rg_g rfl rfl (fun hG => (q_load_refA (ds := [_, _]) sz66 rfl rfl rfl rfl)) ?_
    refine rg_g rfl rfl (fun hG => (q_call en26 (.cons rfl (.cons rfl .nil)) rfl (sameNm_p _ _))) ?_
    refine rg_pick rfl rfl rfl rfl rfl rfl ?_
    refine rg_q (q_a rfl) ?_
    refine rn ?_
    change Awp _ _ _ _ _
    refine awp_ret ?_
    refine ⟨_, (.cons (.tmp (by exact .d _)) .nil), ?_⟩
    simp [retD]
   ·
    simp at hc8
set_option maxRecDepth 100000 in
theorem benchNoisyB_p (ne : Int) (l : List Nat) (s z : Int) (n1 : 1 ≤ ne) (n2 : ne ≤ 16) (nl : (l.length : Int) = ne * ne * 64) (wh : WhlL l) (hk : ckM ne l = (0, 0)) (hl : l.length ≤ 16384) (m : Nat) (hm : l.length = 64 * m) (hm2 : m ≤ 256) (hE : nzE s z l.length = 0) (hB : (nyF l (nzL z s l.length) l.length).any bigB = true) : PC Try.prog 5 [.agg (mtxC ne l), .v (.int .i64 (s)), .v (.int .i64 (z))] (.v (.bool (true))) := by
 refine pc_of_awpN Try.func5 rfl Try.ntmps5 (rs := [.tmp 6]) Try.results5 (by simp) fun w0 hmine hrnd hpn => ?_
 refine awp_seq ?_
 refine awp_region 2 mixed (by kernel_rfl) ?_
 refine rg_q (q_box rfl (by exact .inr ⟨_, rfl⟩)) ?_
 refine rg_q (q_a rfl) ?_
 refine rn ?_
 change Awp _ _ _ _ _
 refine awp_seq ?_
 refine awp_seq ?_
 refine awp_region 2 mixed (by kernel_rfl) ?_
 refine rg_q (q_call en6 .nil rfl (awake_p)) ?_
 refine rg_q (q_not rfl) ?_
 refine rn ?_
 change Awp _ _ _ _ _
 refine awp_cond rfl (fun hc1 => ?_) (fun hc1 => ?_)
 ·
  simp at hc1
 ·
  (try simp only [nb, ne_eq] at hc1)
  refine awp_skip ?_
  change Awp _ _ _ _ _
  refine awp_seq ?_
  refine awp_seq ?_
  refine awp_region 4 mixed (by kernel_rfl) ?_
  refine rg_q (q_fieldAddr fld66_1 rfl) (rg_q (q_load sz64 rfl rfl) ?_)
  refine rg_q (q_len isl64 rfl (by exact len_map _ _)) ?_
  refine rg_q (q_gtr rfl rfl) ?_
  refine rn ?_
  change Awp _ _ _ _ _
  refine awp_len (t := 15) rfl (fun hl15 => ?_)
  (try simp only [List.length_map] at hl15)
  refine awp_cond rfl (fun hc3 => ?_) (fun hc3 => ?_)
  ·
   (try simp only [nb, ne_eq] at hc3)
   have hl0 := hc3
   refine awp_seq ?_
   refine awp_region 1 mixed (by kernel_rfl) ?_
   refine rg_q (q_a rfl) ?_
   refine rn ?_
   change Awp _ _ _ _ _
   refine awp_ret ?_
   refine ⟨_, (.cons (.tmp (by exact .d _)) .nil), ?_⟩
   rfl
  ·
   (try simp only [nb, ne_eq] at hc3)
   have hl260 : l.length ≤ 260 := by omega
   refine awp_skip ?_
   change Awp _ _ _ _ _
   refine awp_seq ?_
   refine awp_region 8 mixed (by kernel_rfl) ?_
   refine rg_q (q_loadA (ds := [_, _]) sz66 rfl rfl rfl) ?_
   refine rg_q (q_call en23 (.cons rfl .nil) rfl (copyMatrix5_p ne l (by omega))) ?_
   refine rg_q (q_m rfl) (rg_q (q_m rfl) ?_)
   refine rg_q (q_call en22 (.cons rfl (.cons rfl (.cons rfl .nil))) rfl (noisyB_p ne l s z n1 n2 nl wh m hm hm2 hE (by rw [← hm]; exact hB))) ?_
   refine rg_q (q_move (x := .d (.tup _)) rfl) (rg_q (q_extract rfl rfl) (rg_q (q_extract rfl rfl) ?_))
   refine rg_nil ?_
   refine aops_alloc zr66 rfl rfl rfl ?_
   refine aops_store sz66 rfl rfl (by exact .inr ⟨_, rfl⟩) rfl rfl (by decide) rfl ?_
   refine aops_q rfl (q_a rfl) ?_
   refine aops_nil ?_
   change Awp _ _ _ _ _
   refine awp_seq ?_
   refine awp_region 7 mixed (by kernel_rfl) ?_
   refine rg_q (q_loadA (ds := [_, _]) sz66 rfl rfl rfl) ?_
   refine rg_q (q_call en24 (.cons rfl .nil) rfl ((by have h := rcheckMatrix5_p ne l; rw [hk] at h; exact h))) ?_
   refine rg_q (q_move (x := .d (.tup _)) rfl) (rg_q (q_extract rfl rfl) (rg_q (q_extract rfl rfl) (rg_q (q_a rfl) (rg_q (q_a rfl) ?_))))
   refine rs (awp_region 0 mixed (by kernel_rfl) ?_)
   refine rg_nil ?_
   refine aops_alloc zr66 rfl rfl rfl ?_
   refine aops_nil ?_
   change Awp _ _ _ _ _
   refine awp_seq ?_
   refine awp_seq ?_
   refine awp_region 2 mixed (by kernel_rfl) ?_
   refine rg_q (q_m rfl) (rg_q (q_eql rfl rfl) ?_)
   refine rn ?_
   change Awp _ _ _ _ _
   refine awp_cond rfl (fun hc8 => ?_) (fun hc8 => ?_)
   ·
    (try simp only [nb, ne_eq] at hc8)
    refine awp_region 7 mixed (by kernel_rfl) ?_
    refine rg_q (q_loadA (ds := [_, _]) sz66 rfl rfl rfl) ?_
    refine rg_q (q_m rfl) (rg_q (q_m rfl) ?_)
    refine rg_q (q_call en25 (.cons rfl (.cons rfl (.cons rfl .nil))) rfl (rnoisyB_p ne l s z wh hl hE hB)) ?_
    refine rg_q (q_move (x := .d (.tup _)) rfl) (rg_q (q_extract rfl rfl) (rg_q (q_extract rfl rfl) ?_))
    refine rg_nil ?_
    refine aops_store sz66 rfl rfl (by exact .inr ⟨_, rfl⟩) rfl rfl (by decide) rfl ?_
    refine aops_q rfl (q_a rfl) ?_
    refine aops_nil ?_
    change Awp _ _ _ _ _
    refine awp_seq ?_
    refine Awp.le (le_upB 7 (nmC 0 []) rfl (.cons (.same _) (.cons (.nil 1) .nil))) ?_
    refine Awp.le (le_upB 11 (nmC 0 []) rfl (.cons (.same _) (.cons (.nil 1) .nil))) ?_
    refine awp_region 9 mixed (by kernel_rfl) ?_
    refine rg_q (q_m rfl) (rg_q (q_m rfl) (rg_q (q_eql rfl rfl) (rg_q (q_m rfl) ?_)))
    refine rg_g rfl rfl (fun hG => (q_load_refA (ds := [_, _]) sz66 rfl rfl rfl rfl)) ?_
    refine rg_g rfl rfl (fun hG => (q_load_refA (ds := [_, _]) sz66 rfl rfl rfl rfl)) ?_
    refine rg_g rfl rfl (fun hG => (q_call en26 (.cons rfl (.cons rfl .nil)) rfl (sameNm_p _ _))) ?_
    refine rg_pick rfl rfl rfl rfl rfl rfl ?_
    refine rg_q (q_a rfl) ?_
    refine rn ?_
    change Awp _ _ _ _ _
    refine awp_ret ?_
    refine ⟨_, (.cons (.tmp (by exact .d _)) .nil), ?_⟩
    simp [retD]
   ·
    simp at hc8
set_option maxRecDepth 100000 in
theorem benchNoisyOk_p (ne : Int) (l : List Nat) (s z : Int) (n1 : 1 ≤ ne) (n2 : ne ≤ 16) (nl : (l.length : Int) = ne * ne * 64) (wh : WhlL l) (hk : ckM ne l = (0, 0)) (hl : l.length ≤ 16384) (m : Nat) (hm : l.length = 64 * m) (hm2 : m ≤ 256) (hE : nzE s z l.length = 0) (hB : (nyF l (nzL z s l.length) l.length).any bigB = false) : PC Try.prog 5 [.agg (mtxC ne l), .v (.int .i64 (s)), .v (.int .i64 (z))] (.v (.bool (true))) := by
 refine pc_of_awpN Try.func5 rfl Try.ntmps5 (rs := [.tmp 6]) Try.results5 (by simp) fun w0 hmine hrnd hpn => ?_
 refine awp_seq ?_
 refine awp_region 2 mixed (by kernel_rfl) ?_
 refine rg_q (q_box rfl (by exact .inr ⟨_, rfl⟩)) ?_
 refine rg_q (q_a rfl) ?_
 refine rn ?_
 change Awp _ _ _ _ _
 refine awp_seq ?_
 refine awp_seq ?_
 refine awp_region 2 mixed (by kernel_rfl) ?_
 refine rg_q (q_call en6 .nil rfl (awake_p)) ?_
 refine rg_q (q_not rfl) ?_
 refine rn ?_
 change Awp _ _ _ _ _
 refine awp_cond rfl (fun hc1 => ?_) (fun hc1 => ?_)
 ·
  simp at hc1
 ·
  (try simp only [nb, ne_eq] at hc1)
  refine awp_skip ?_
  change Awp _ _ _ _ _
  refine awp_seq ?_
  refine awp_seq ?_
  refine awp_region 4 mixed (by kernel_rfl) ?_
  refine rg_q (q_fieldAddr fld66_1 rfl) (rg_q (q_load sz64 rfl rfl) ?_)
  refine rg_q (q_len isl64 rfl (by exact len_map _ _)) ?_
  refine rg_q (q_gtr rfl rfl) ?_
  refine rn ?_
  change Awp _ _ _ _ _
  refine awp_len (t := 15) rfl (fun hl15 => ?_)
  (try simp only [List.length_map] at hl15)
  refine awp_cond rfl (fun hc3 => ?_) (fun hc3 => ?_)
  ·
   (try simp only [nb, ne_eq] at hc3)
   have hl0 := hc3
   refine awp_seq ?_
   refine awp_region 1 mixed (by kernel_rfl) ?_
   refine rg_q (q_a rfl) ?_
   refine rn ?_
   change Awp _ _ _ _ _
   refine awp_ret ?_
   refine ⟨_, (.cons (.tmp (by exact .d _)) .nil), ?_⟩
   rfl
  ·
   (try simp only [nb, ne_eq] at hc3)
   have hl260 : l.length ≤ 260 := by omega
   refine awp_skip ?_
   change Awp _ _ _ _ _
   refine awp_seq ?_
   refine awp_region 8 mixed (by kernel_rfl) ?_
   refine rg_q (q_loadA (ds := [_, _]) sz66 rfl rfl rfl) ?_
   refine rg_q (q_call en23 (.cons rfl .nil) rfl (copyMatrix5_p ne l (by omega))) ?_
   refine rg_q (q_m rfl) (rg_q (q_m rfl) ?_)
   refine rg_q (q_call en22 (.cons rfl (.cons rfl (.cons rfl .nil))) rfl ((by have h := noisyOk_p ne l s z n1 n2 nl wh m hm hm2 hE (by rw [← hm]; exact hB); rw [← hm] at h; exact h))) ?_
   refine rg_q (q_move (x := .d (.tup _)) rfl) (rg_q (q_extract rfl rfl) (rg_q (q_extract rfl rfl) ?_))
   refine rg_nil ?_
   refine aops_alloc zr66 rfl rfl rfl ?_
   refine aops_store sz66 rfl rfl (by exact .inr ⟨_, rfl⟩) rfl rfl (by decide) rfl ?_
   refine aops_q rfl (q_a rfl) ?_
   refine aops_nil ?_
   change Awp _ _ _ _ _
   refine awp_seq ?_
   refine awp_region 7 mixed (by kernel_rfl) ?_
   refine rg_q (q_loadA (ds := [_, _]) sz66 rfl rfl rfl) ?_
   refine rg_q (q_call en24 (.cons rfl .nil) rfl ((by have h := rcheckMatrix5_p ne l; rw [hk] at h; exact h))) ?_
   refine rg_q (q_move (x := .d (.tup _)) rfl) (rg_q (q_extract rfl rfl) (rg_q (q_extract rfl rfl) (rg_q (q_a rfl) (rg_q (q_a rfl) ?_))))
   refine rs (awp_region 0 mixed (by kernel_rfl) ?_)
   refine rg_nil ?_
   refine aops_alloc zr66 rfl rfl rfl ?_
   refine aops_nil ?_
   change Awp _ _ _ _ _
   refine awp_seq ?_
   refine awp_seq ?_
   refine awp_region 2 mixed (by kernel_rfl) ?_
   refine rg_q (q_m rfl) (rg_q (q_eql rfl rfl) ?_)
   refine rn ?_
   change Awp _ _ _ _ _
   refine awp_cond rfl (fun hc8 => ?_) (fun hc8 => ?_)
   ·
    (try simp only [nb, ne_eq] at hc8)
    refine awp_region 7 mixed (by kernel_rfl) ?_
    refine rg_q (q_loadA (ds := [_, _]) sz66 rfl rfl rfl) ?_
    refine rg_q (q_m rfl) (rg_q (q_m rfl) ?_)
    refine rg_q (q_call en25 (.cons rfl (.cons rfl (.cons rfl .nil))) rfl (rnoisyOk_p ne l s z wh hl hE hB)) ?_
    refine rg_q (q_move (x := .d (.tup _)) rfl) (rg_q (q_extract rfl rfl) (rg_q (q_extract rfl rfl) ?_))
    refine rg_nil ?_
    refine aops_store sz66 rfl rfl (by exact .inr ⟨_, rfl⟩) rfl rfl (by decide) rfl ?_
    refine aops_q rfl (q_a rfl) ?_
    refine aops_nil ?_
    change Awp _ _ _ _ _
    refine awp_seq ?_
    refine awp_region 9 mixed (by kernel_rfl) ?_
    refine rg_q (q_m rfl) (rg_q (q_m rfl) (rg_q (q_eql rfl rfl) (rg_q (q_m rfl) ?_)))
    refine rg_g rfl rfl (fun hG => (q_load_refA (ds := [_, _]) sz66 rfl rfl rfl rfl)) ?_
    refine rg_g rfl rfl (fun hG => (q_load_refA (ds := [_, _]) sz66 rfl rfl rfl rfl)) ?_
    refine rg_g rfl rfl (fun hG => (q_call en26 (.cons rfl (.cons rfl .nil)) rfl (sameNm_p _ _))) ?_
    refine rg_pick rfl rfl rfl rfl rfl rfl ?_
    refine rg_q (q_a rfl) ?_
    refine rn ?_
    change Awp _ _ _ _ _
    refine awp_ret ?_
    refine ⟨_, (.cons (.tmp (by exact .d _)) .nil), ?_⟩
    simp [retD]
   ·
    simp at hc8

theorem ssE_fst : ∀ {l : List Nat} {i : Nat}, (ssE i l).2 = 0 → ssE i l = (0, 0)
  | [], _, _ => rfl
  | q :: l, i, h => by
    unfold ssE at h ⊢
    by_cases h1 : sE q ≠ 0
    · rw [if_pos h1] at h; exact absurd h h1
    · rw [if_neg h1] at h ⊢; exact ssE_fst h
theorem ckM_fst {ne : Int} {l : List Nat} (h : (ckM ne l).2 = 0) : ckM ne l = (0, 0) := by
  unfold ckM at h ⊢
  split
  · rename_i h1
    rw [if_pos h1] at h
    split
    · rename_i h2
      rw [if_pos h2] at h; cases h
    · rename_i h2
      rw [if_neg h2] at h
      exact ssE_fst h
  · rename_i h1
    rw [if_neg h1] at h; cases h
theorem benchNoisy_p (ne : Int) (l : List Nat) (s z : Int) : PC Try.prog 5 [.agg (mtxC ne l), .v (.int .i64 (s)), .v (.int .i64 (z))] (.v (.bool true)) := by
  by_cases hM : (ckM ne l).2 = 0
  · obtain ⟨n1, n2, nl, wh⟩ := ckM_ok hM
    have hk := ckM_fst hM
    have hq := mulb (a := ne) (b := ne) (A := 16) (B := 16) (by omega) (by omega) (by omega) (by omega)
    have hp := Int.mul_nonneg (show 0 ≤ ne by omega) (show 0 ≤ ne by omega)
    obtain ⟨m, hmm⟩ : ∃ m, m = (ne * ne).toNat := ⟨_, rfl⟩
    have hm : l.length = 64 * m := by omega
    have hm2 : m ≤ 256 := by omega
    have hl : l.length ≤ 16384 := by omega
    by_cases hE : nzE s z l.length = 0
    · cases hB : (nyF l (nzL z s l.length) l.length).any bigB with
      | true => exact benchNoisyB_p ne l s z n1 n2 nl wh hk hl m hm hm2 hE hB
      | false => exact benchNoisyOk_p ne l s z n1 n2 nl wh hk hl m hm hm2 hE hB
    · exact benchNoisyE_p ne l s z n1 n2 nl wh hk hl hE
  · exact benchNoisyM_p ne l s z hM
end Go.Proofs.Ytamaocfjknpadaa.Am.M
