/- Contracts over the abstract machine: TuneUneven. Conditions: none. -/
import Derived.Test.YtgdcidbpadhkpaaL3
import Derived.Test.YtgdcidbpadhkpaaAm23
set_option linter.unusedVariables false
set_option linter.unusedSimpArgs false
namespace Go.Proofs.Ytgdcidbpadhkpaa.Am.M
open Go
set_option maxRecDepth 100000 in
theorem copyInts_p (l : List Int) (hl : l.length ≤ 1000) : PC Try.prog 46 [.sl 1 (l.map iC)] (.sl 1 (l.map iC)) := by
  refine pc_of_awp Try.func46 rfl Try.ntmps46 (rs := [.tmp 2]) Try.results46 (by simp) fun w0 => ?_
  refine awp_seq ?_
  refine awp_region 1 mixed (by kernel_rfl) ?_
  first | refine rg_q (q_assign (x := .d (.sl _ _)) rfl) ?_ | refine rg_q (q_assign (x := .rs _) rfl) ?_ | refine rg_q (q_assign (x := .d (.v _)) rfl) ?_
  refine rg_nil ?_
  refine aops_nil ?_
  change Awp _ _ _ _ _
  refine awp_seq ?_
  refine awp_region 0 mixed (by kernel_rfl) ?_
  refine rg_nil ?_
  refine aops_empty sl25 zr3 rfl rfl ?_
  first | refine aops_q rfl (q_move (x := .d (.sl _ _)) rfl) ?_ | refine aops_q rfl (q_move (x := .rs _) rfl) ?_ | refine aops_q rfl (q_move (x := .d (.v _)) rfl) ?_
  first | refine aops_append sl25 zr3 by3 rfl (by decide) rfl rfl rfl rfl (by (try simp only [List.length_map, List.length_append, List.length_cons, List.length_nil]); omega) (by (try simp only [List.length_map, List.length_append, List.length_cons, List.length_nil]); omega) rfl rfl ?_ | refine aops_appendR sl25 zr3 by3 rfl (by decide) rfl rfl rfl rfl rfl (by (try simp only [List.length_map, List.length_append, List.length_cons, List.length_nil]); omega) (by (try simp only [List.length_map, List.length_append, List.length_cons, List.length_nil]); omega) rfl rfl ?_
  first | refine aops_q rfl (q_assign (x := .d (.sl _ _)) rfl) ?_ | refine aops_q rfl (q_assign (x := .rs _) rfl) ?_ | refine aops_q rfl (q_assign (x := .d (.v _)) rfl) ?_
  refine aops_nil ?_
  change Awp _ _ _ _ _
  refine awp_ret ?_
  refine ⟨_, (.cons (.tmp (by first | exact .d _ | exact .rs rfl | exact .ref rfl | exact .tref rfl (.cons (.d _ rfl) (.cons (.rs rfl) .nil)))) .nil), ?_⟩
  rfl
set_option maxRecDepth 100000 in
theorem Size_p (n : Int) (h : Sm n) : PC Try.prog 76 [.v (.int .i64 (n))] (.v (.int .i64 (max n (-n)))) := by
  obtain ⟨h1, h2⟩ := h
  refine pc_of_awp Try.func76 rfl Try.ntmps76 (rs := [.tmp 2]) Try.results76 (by simp) fun w0 => ?_
  refine awp_seq ?_
  refine awp_region 1 mixed (by kernel_rfl) ?_
  refine rg_q (q_assign (x := .d (.v _)) rfl) ?_
  refine rg_nil ?_
  refine aops_nil ?_
  change Awp _ _ _ _ _
  refine awp_seq ?_
  refine awp_region 5 mixed (by kernel_rfl) ?_
  refine rg_q (q_move (x := .d (.v _)) rfl) ?_
  refine rg_q (q_move (x := .d (.v _)) rfl) ?_
  refine rg_q (q_neg rfl (In64.mk (by omega) (by omega))) ?_
  refine rg_q (q_max rfl rfl) ?_
  refine rg_q (q_assign (x := .d (.v _)) rfl) ?_
  refine rg_nil ?_
  refine aops_nil ?_
  change Awp _ _ _ _ _
  refine awp_ret ?_
  refine ⟨_, (.cons (.tmp (by first | exact .d _ | exact .rs rfl | exact .ref rfl | exact .tref rfl (.cons (.d _ rfl) (.cons (.rs rfl) .nil)))) .nil), ?_⟩
  rfl
set_option maxRecDepth 100000 in
theorem uneven1_p (n : Int) : PC Try.prog 98 [.v (.int .i64 (n))] (.v (.bool (!inR 0 n 1000000))) := by
  refine pc_of_awp Try.func98 rfl Try.ntmps98 (rs := [.tmp 2]) Try.results98 (by simp) fun w0 => ?_
  refine awp_seq ?_
  refine awp_region 1 mixed (by kernel_rfl) ?_
  refine rg_q (q_assign (x := .d (.v _)) rfl) ?_
  refine rg_nil ?_
  refine aops_nil ?_
  change Awp _ _ _ _ _
  refine awp_seq ?_
  refine awp_region 4 mixed (by kernel_rfl) ?_
  refine rg_q (q_move (x := .d (.v _)) rfl) ?_
  first | refine rg_q (q_call en73 (.cons rfl (.cons rfl (.cons rfl .nil))) rfl (within_p _ _ _)) ?_ | refine rg_q (q_callF en73 (.cons (by first | exact .d _ | exact .rs rfl | exact .ref rfl | exact .nil _ | exact .tref rfl (by repeat (first | exact .nil | refine .cons (.d _ rfl) ?_ | refine .cons (.rs rfl) ?_))) (.cons (by first | exact .d _ | exact .rs rfl | exact .ref rfl | exact .nil _ | exact .tref rfl (by repeat (first | exact .nil | refine .cons (.d _ rfl) ?_ | refine .cons (.rs rfl) ?_))) (.cons (by first | exact .d _ | exact .rs rfl | exact .ref rfl | exact .nil _ | exact .tref rfl (by repeat (first | exact .nil | refine .cons (.d _ rfl) ?_ | refine .cons (.rs rfl) ?_))) .nil))) rfl (within_p _ _ _) (by first | exact .v _ | exact D.Flat.tupF (by repeat first | exact trivial | refine ⟨.v _, ?_⟩) | exact D.Flat.aggF (by repeat first | exact trivial | refine ⟨.v _, ?_⟩))) ?_
  refine rg_q (q_not rfl) ?_
  refine rg_q (q_assign (x := .d (.v _)) rfl) ?_
  refine rg_nil ?_
  refine aops_nil ?_
  change Awp _ _ _ _ _
  refine awp_ret ?_
  refine ⟨_, (.cons (.tmp (by first | exact .d _ | exact .rs rfl | exact .ref rfl | exact .tref rfl (.cons (.d _ rfl) (.cons (.rs rfl) .nil)))) .nil), ?_⟩
  rfl
set_option maxRecDepth 100000 in
theorem indexFInt_p (f : Int → Bool) (g : FuncId) (cap : List D) (hen : enB Try.prog g = true) (l : List Int) (hf : ∀ a ∈ l, PC Try.prog g (.v (.int .i64 a) :: cap) (.v (.bool (f a)))) : PC Try.prog 124 [.sl 1 (l.map iC), .fn (.func g) cap] (.v (.int .i64 (idxOf f 0 l))) := by
  refine pc_of_awp Try.func124 rfl Try.ntmps124 (rs := [.tmp 4]) Try.results124 (by simp) fun w0 => ?_
  refine awp_seq ?_
  refine awp_region 1 mixed (by kernel_rfl) ?_
  refine rg_q (q_assign (x := .d (.v _)) rfl) ?_
  refine rg_nil ?_
  refine aops_nil ?_
  change Awp _ _ _ _ _
  refine awp_seq ?_
  refine awp_seq ?_
  refine awp_region 3 mixed (by kernel_rfl) ?_
  first | refine rg_q (q_move (x := .d (.sl _ _)) rfl) ?_ | refine rg_q (q_move (x := .rs _) rfl) ?_ | refine rg_q (q_move (x := .d (.v _)) rfl) ?_
  first | refine rg_q (q_len isl25 rfl (by first | exact len_map _ _ | rfl)) ?_ | refine rg_q (q_len_rs isl25 rfl rfl) ?_ | refine rg_q (q_len_nil isl25 rfl) ?_
  refine rg_q (q_move (x := .d (.v _)) rfl) ?_
  refine rg_nil ?_
  refine aops_nil ?_
  change Awp _ _ _ _ _
  first | refine awp_len (t := 6) rfl (fun hl6 => ?_) | skip
  (try simp only [List.length_map] at hl6)
  refine awp_block ?_
  refine awp_loopH [4, 5, 8, 9, 10, 11, 12, 13, 14, 15, 16, 17, 18] [] (α := Nat) (fun k => [(8, T.i (k : Int))]) (fun k => []) (fun k => k ≤ l.length ∧ idxOf f 0 l = idxOf f k (l.drop k)) (fun k => l.length - k) 0 ⟨Nat.zero_le _, rfl⟩ ?_ ?_
  · exact le_head (ms := []) (by repeat (first | exact Out.refl _ | exact Out.head rfl rfl | (refine Out.put ?_ rfl) | (refine Out.site ?_ rfl) | (refine Out.putn ?_) | (refine Out.headIn ?_ rfl rfl rfl) | (refine Out.called ?_ rfl rfl))) ⟨(by first | rfl | (simp; done)), trivial⟩ trivial rfl rfl rfl rfl
  ·
    intro k ⟨hk, hh⟩
    refine awp_seq ?_
    refine awp_region 1 mixed (by kernel_rfl) ?_
    refine rg_q (q_lss rfl rfl) ?_
    refine rg_nil ?_
    refine aops_nil ?_
    change Awp _ _ _ _ _
    refine awp_seq ?_
    refine awp_cond rfl (fun hc2 => ?_) (fun hc2 => ?_)
    ·
      (try simp only [decide_eq_true_eq, decide_eq_false_iff_not, Bool.and_eq_true, Bool.or_eq_true, Bool.and_eq_false_iff, Bool.or_eq_false_iff, Bool.not_eq_true', Bool.not_eq_false', Bool.not_true, Bool.not_false, bif_and, bif_or, Bool.not_not, ne_eq, Decidable.not_not, not_true_eq_false, not_false_eq_true, Int.not_le, Int.not_lt] at hc2)
      have hlt : k < l.length := by omega
      have hx := List.getElem?_eq_getElem hlt
      have hd : idxOf f k (l.drop k) = if f l[k] = true then (k : Int) else idxOf f (k + 1) (l.drop (k + 1)) := by rw [List.drop_eq_getElem_cons hlt]; rfl
      have hfx := hf l[k] (List.getElem_mem hlt)
      generalize l[k] = x at *
      refine awp_skip ?_
      change Awp _ _ _ _ _
      refine awp_seq ?_
      refine awp_block ?_
      refine awp_seq ?_
      refine awp_region 2 mixed (by kernel_rfl) ?_
      refine rg_q (q_move (x := .d (.v _)) rfl) ?_
      refine rg_q (q_assign (x := .d (.v _)) rfl) ?_
      refine rg_nil ?_
      refine aops_nil ?_
      change Awp _ _ _ _ _
      refine awp_seq ?_
      refine awp_region 6 mixed (by kernel_rfl) ?_
      refine rg_q (q_move (x := .d (.fn _ _)) rfl) ?_
      first | refine rg_q (q_move (x := .d (.sl _ _)) rfl) ?_ | refine rg_q (q_move (x := .rs _) rfl) ?_ | refine rg_q (q_move (x := .d (.v _)) rfl) ?_
      refine rg_q (q_move (x := .d (.v _)) rfl) ?_
      first | refine rg_q (q_indexAddr sl25 rfl rfl (by omega) (map_at (by omega) hx)) ?_ | refine rg_q (q_indexAddr_rs sl25 rfl rfl rfl (by omega) (by omega)) ?_
      first | refine rg_q (q_load sz3 rfl rfl) ?_ | refine rg_q (q_load_ref sz3 rfl rfl rfl) ?_ | refine rg_q (q_load_tb (x := .d _) sz3 rfl rfl rfl) ?_ | refine rg_q (q_load_tb (x := .rs _) sz3 rfl rfl rfl) ?_
      refine rg_q (q_callC hen rfl (.cons rfl .nil) (hfx)) ?_
      refine rg_nil ?_
      refine aops_nil ?_
      change Awp _ _ _ _ _
      refine awp_cond rfl (fun hc4 => ?_) (fun hc4 => ?_)
      ·
        (try simp only [decide_eq_true_eq, decide_eq_false_iff_not, Bool.and_eq_true, Bool.or_eq_true, Bool.and_eq_false_iff, Bool.or_eq_false_iff, Bool.not_eq_true', Bool.not_eq_false', Bool.not_true, Bool.not_false, bif_and, bif_or, Bool.not_not, ne_eq, Decidable.not_not, not_true_eq_false, not_false_eq_true, Int.not_le, Int.not_lt] at hc4)
        refine awp_seq ?_
        refine awp_region 2 mixed (by kernel_rfl) ?_
        refine rg_q (q_move (x := .d (.v _)) rfl) ?_
        refine rg_q (q_assign (x := .d (.v _)) rfl) ?_
        refine rg_nil ?_
        refine aops_nil ?_
        change Awp _ _ _ _ _
        refine awp_ret ?_
        refine ⟨_, (.cons (.tmp (by first | exact .d _ | exact .rs rfl | exact .ref rfl | exact .tref rfl (.cons (.d _ rfl) (.cons (.rs rfl) .nil)))) .nil), ?_⟩
        rw [hh, hd, if_pos (by simpa using hc4)]; rfl
      ·
        (try simp only [decide_eq_true_eq, decide_eq_false_iff_not, Bool.and_eq_true, Bool.or_eq_true, Bool.and_eq_false_iff, Bool.or_eq_false_iff, Bool.not_eq_true', Bool.not_eq_false', Bool.not_true, Bool.not_false, bif_and, bif_or, Bool.not_not, ne_eq, Decidable.not_not, not_true_eq_false, not_false_eq_true, Int.not_le, Int.not_lt] at hc4)
        refine awp_skip ?_
        change Awp _ _ _ _ _
        refine awp_region 2 mixed (by kernel_rfl) ?_
        refine rg_q (q_add rfl rfl (In64.mk (by omega) (by omega))) ?_
        refine rg_q (q_move (x := .d (.v _)) rfl) ?_
        refine rg_nil ?_
        refine aops_nil ?_
        refine ⟨k + 1, ⟨by omega, by rw [hh, hd, if_neg (by simpa using hc4)]⟩, by omega, ?_⟩
        exact le_head (ms := []) (by repeat (first | exact Out.refl _ | exact Out.head rfl rfl | (refine Out.put ?_ rfl) | (refine Out.site ?_ rfl) | (refine Out.putn ?_) | (refine Out.headIn ?_ rfl rfl rfl) | (refine Out.called ?_ rfl rfl))) ⟨(by first | rfl | (simp; done)), trivial⟩ trivial rfl rfl rfl rfl
    ·
      (try simp only [decide_eq_true_eq, decide_eq_false_iff_not, Bool.and_eq_true, Bool.or_eq_true, Bool.and_eq_false_iff, Bool.or_eq_false_iff, Bool.not_eq_true', Bool.not_eq_false', Bool.not_true, Bool.not_false, bif_and, bif_or, Bool.not_not, ne_eq, Decidable.not_not, not_true_eq_false, not_false_eq_true, Int.not_le, Int.not_lt] at hc2)
      refine awp_exit ?_
      change Awp _ _ _ _ _
      refine awp_seq ?_
      refine awp_region 1 mixed (by kernel_rfl) ?_
      refine rg_q (q_assign (x := .d (.v _)) rfl) ?_
      refine rg_nil ?_
      refine aops_nil ?_
      change Awp _ _ _ _ _
      refine awp_ret ?_
      refine ⟨_, (.cons (.tmp (by first | exact .d _ | exact .rs rfl | exact .ref rfl | exact .tref rfl (.cons (.d _ rfl) (.cons (.rs rfl) .nil)))) .nil), ?_⟩
      rw [hh, List.drop_of_length_le (by omega)]; rfl
set_option maxRecDepth 100000 in
theorem containsFInt_p (f : Int → Bool) (g : FuncId) (cap : List D) (hen : enB Try.prog g = true) (l : List Int) (hf : ∀ a ∈ l, PC Try.prog g (.v (.int .i64 a) :: cap) (.v (.bool (f a)))) : PC Try.prog 97 [.sl 1 (l.map iC), .fn (.func g) cap] (.v (.bool (l.any f))) := by
  have hm := idxOf_mem f l
  refine pc_of_awp Try.func97 rfl Try.ntmps97 (rs := [.tmp 4]) Try.results97 (by simp) fun w0 => ?_
  refine awp_seq ?_
  refine awp_region 1 mixed (by kernel_rfl) ?_
  refine rg_q (q_assign (x := .d (.v _)) rfl) ?_
  refine rg_nil ?_
  refine aops_nil ?_
  change Awp _ _ _ _ _
  refine awp_seq ?_
  refine awp_region 5 mixed (by kernel_rfl) ?_
  first | refine rg_q (q_move (x := .d (.sl _ _)) rfl) ?_ | refine rg_q (q_move (x := .rs _) rfl) ?_ | refine rg_q (q_move (x := .d (.v _)) rfl) ?_
  refine rg_q (q_move (x := .d (.fn _ _)) rfl) ?_
  first | refine rg_q (q_call en124 (.cons rfl (.cons rfl .nil)) rfl (indexFInt_p f _ _ hen _ hf)) ?_ | refine rg_q (q_callF en124 (.cons (by first | exact .d _ | exact .rs rfl | exact .ref rfl | exact .nil _ | exact .tref rfl (by repeat (first | exact .nil | refine .cons (.d _ rfl) ?_ | refine .cons (.rs rfl) ?_))) (.cons (by first | exact .d _ | exact .rs rfl | exact .ref rfl | exact .nil _ | exact .tref rfl (by repeat (first | exact .nil | refine .cons (.d _ rfl) ?_ | refine .cons (.rs rfl) ?_))) .nil)) rfl (indexFInt_p f _ _ hen _ hf) (by first | exact .v _ | exact D.Flat.tupF (by repeat first | exact trivial | refine ⟨.v _, ?_⟩) | exact D.Flat.aggF (by repeat first | exact trivial | refine ⟨.v _, ?_⟩))) ?_
  refine rg_q (q_geq rfl rfl) ?_
  refine rg_q (q_assign (x := .d (.v _)) rfl) ?_
  refine rg_nil ?_
  refine aops_nil ?_
  change Awp _ _ _ _ _
  refine awp_ret ?_
  refine ⟨_, (.cons (.tmp (by first | exact .d _ | exact .rs rfl | exact .ref rfl | exact .tref rfl (.cons (.d _ rfl) (.cons (.rs rfl) .nil)))) .nil), ?_⟩
  rw [← hm]; rfl

def badI (l : List Int) : Bool := l.any fun n => !inR 0 n 1000000
def unP (r s : Int) (n : Int) : Bool := decide (s * r < 1000 * max (n - r) (-(n - r)))
def unL (r s : Int) : Nat → List Int → List Int
  | _, [] => []
  | i, x :: xs => if unP r s x = true then (i : Int) :: unL r s (i + 1) xs else unL r s (i + 1) xs
def unevS (l : List Int) (r s : Int) : List Int × Int := if 16 < l.length then ([], 8) else if badI l = true then ([], 2) else if (decide (echoE r ≠ 0) || !inR 0 s 1000) = true then ([], 2) else (unL r s 0 l, 0)
theorem unL_take {r s : Int} {l : List Int} {k : Nat} {x : Int} (hx : l[k]? = some x) : unL r s k (l.drop k) = if unP r s x = true then (k : Int) :: unL r s (k + 1) (l.drop (k + 1)) else unL r s (k + 1) (l.drop (k + 1)) := by
  obtain ⟨hlt, rfl⟩ := List.getElem?_eq_some_iff.1 hx
  rw [List.drop_eq_getElem_cons hlt]; rfl
theorem badI_at {l : List Int} (h : badI l = false) {k : Nat} {x : Int} (hx : l[k]? = some x) : 0 ≤ x ∧ x ≤ 1000000 := by
  have := List.any_eq_false.1 h x (List.mem_of_getElem? hx)
  simp [inR] at this
  exact this
set_option maxRecDepth 100000 in
theorem Uneven_p (l : List Int) (r s : Int) : PC Try.prog 45 [.sl 1 (l.map iC), .v (.int .i64 (r)), .v (.int .i64 (s))] (.tup [.sl 1 ((unevS l r s).1.map iC), .v (.int .i64 ((unevS l r s).2))]) := by
  refine pc_of_awp Try.func45 rfl Try.ntmps45 (rs := [.tmp 6, .tmp 7]) Try.results45 (by simp) fun w0 => ?_
  refine awp_seq ?_
  refine awp_region 2 mixed (by kernel_rfl) ?_
  first | refine rg_q (q_assign (x := .d (.sl _ _)) rfl) ?_ | refine rg_q (q_assign (x := .rs _) rfl) ?_ | refine rg_q (q_assign (x := .d (.v _)) rfl) ?_
  refine rg_q (q_assign (x := .d (.v _)) rfl) ?_
  refine rg_nil ?_
  refine aops_nil ?_
  change Awp _ _ _ _ _
  refine awp_seq ?_
  refine awp_block ?_
  refine awp_seq ?_
  refine awp_region 4 mixed (by kernel_rfl) ?_
  first | refine rg_q (q_move (x := .d (.sl _ _)) rfl) ?_ | refine rg_q (q_move (x := .rs _) rfl) ?_ | refine rg_q (q_move (x := .d (.v _)) rfl) ?_
  first | refine rg_q (q_len isl25 rfl (by first | exact len_map _ _ | rfl)) ?_ | refine rg_q (q_len_rs isl25 rfl rfl) ?_ | refine rg_q (q_len_nil isl25 rfl) ?_
  refine rg_q (q_gtr rfl rfl) ?_
  refine rg_q (q_assign (x := .d (.v _)) rfl) ?_
  refine rg_nil ?_
  refine aops_nil ?_
  change Awp _ _ _ _ _
  first | refine awp_len (t := 12) rfl (fun hl12 => ?_) | skip
  (try simp only [List.length_map] at hl12)
  refine awp_cond rfl (fun hc1 => ?_) (fun hc1 => ?_)
  ·
    (try simp only [decide_eq_true_eq, decide_eq_false_iff_not, Bool.and_eq_true, Bool.or_eq_true, Bool.and_eq_false_iff, Bool.or_eq_false_iff, Bool.not_eq_true', Bool.not_eq_false', Bool.not_true, Bool.not_false, bif_and, bif_or, Bool.not_not, ne_eq, Decidable.not_not, not_true_eq_false, not_false_eq_true, Int.not_le, Int.not_lt] at hc1)
    have hz : unevS l r s = ([], 8) := by unfold unevS; rw [if_pos (by omega)]
    refine awp_seq ?_
    refine awp_region 2 mixed (by kernel_rfl) ?_
    first | refine rg_q (q_assign (x := .d (.sl _ _)) rfl) ?_ | refine rg_q (q_assign (x := .rs _) rfl) ?_ | refine rg_q (q_assign (x := .d (.v _)) rfl) ?_
    refine rg_q (q_assign (x := .d (.v _)) rfl) ?_
    refine rg_nil ?_
    refine aops_nil ?_
    change Awp _ _ _ _ _
    refine awp_ret ?_
    refine ⟨_, (.cons (.tmp (by first | exact .nil _ | exact .d _ | exact .rs rfl)) (.cons (.tmp (by first | exact .nil _ | exact .d _ | exact .rs rfl)) .nil)), ?_⟩
    rw [hz]; rfl
  ·
    (try simp only [decide_eq_true_eq, decide_eq_false_iff_not, Bool.and_eq_true, Bool.or_eq_true, Bool.and_eq_false_iff, Bool.or_eq_false_iff, Bool.not_eq_true', Bool.not_eq_false', Bool.not_true, Bool.not_false, bif_and, bif_or, Bool.not_not, ne_eq, Decidable.not_not, not_true_eq_false, not_false_eq_true, Int.not_le, Int.not_lt] at hc1)
    refine awp_seq ?_
    refine awp_region 3 mixed (by kernel_rfl) ?_
    first | refine rg_q (q_move (x := .d (.sl _ _)) rfl) ?_ | refine rg_q (q_move (x := .rs _) rfl) ?_ | refine rg_q (q_move (x := .d (.v _)) rfl) ?_
    first | refine rg_q (q_call en97 (.cons rfl (.cons rfl .nil)) rfl (containsFInt_p (fun n => !inR 0 n 1000000) 98 [] en98 l (fun a _ => uneven1_p a))) ?_ | refine rg_q (q_callF en97 (.cons (by first | exact .d _ | exact .rs rfl | exact .ref rfl | exact .nil _ | exact .tref rfl (by repeat (first | exact .nil | refine .cons (.d _ rfl) ?_ | refine .cons (.rs rfl) ?_))) (.cons (by first | exact .d _ | exact .rs rfl | exact .ref rfl | exact .nil _ | exact .tref rfl (by repeat (first | exact .nil | refine .cons (.d _ rfl) ?_ | refine .cons (.rs rfl) ?_))) .nil)) rfl (containsFInt_p (fun n => !inR 0 n 1000000) 98 [] en98 l (fun a _ => uneven1_p a)) (by first | exact .v _ | exact D.Flat.tupF (by repeat first | exact trivial | refine ⟨.v _, ?_⟩) | exact D.Flat.aggF (by repeat first | exact trivial | refine ⟨.v _, ?_⟩))) ?_
    refine rg_q (q_assign (x := .d (.v _)) rfl) ?_
    refine rg_nil ?_
    refine aops_nil ?_
    change Awp _ _ _ _ _
    refine awp_cond rfl (fun hc3 => ?_) (fun hc3 => ?_)
    ·
      (try simp only [decide_eq_true_eq, decide_eq_false_iff_not, Bool.and_eq_true, Bool.or_eq_true, Bool.and_eq_false_iff, Bool.or_eq_false_iff, Bool.not_eq_true', Bool.not_eq_false', Bool.not_true, Bool.not_false, bif_and, bif_or, Bool.not_not, ne_eq, Decidable.not_not, not_true_eq_false, not_false_eq_true, Int.not_le, Int.not_lt] at hc3)
      have hz : unevS l r s = ([], 2) := by unfold unevS; rw [if_neg (by omega), if_pos (show badI l = true from hc3)]
      refine awp_seq ?_
      refine awp_region 2 mixed (by kernel_rfl) ?_
      first | refine rg_q (q_assign (x := .d (.sl _ _)) rfl) ?_ | refine rg_q (q_assign (x := .rs _) rfl) ?_ | refine rg_q (q_assign (x := .d (.v _)) rfl) ?_
      refine rg_q (q_assign (x := .d (.v _)) rfl) ?_
      refine rg_nil ?_
      refine aops_nil ?_
      change Awp _ _ _ _ _
      refine awp_ret ?_
      refine ⟨_, (.cons (.tmp (by first | exact .nil _ | exact .d _ | exact .rs rfl)) (.cons (.tmp (by first | exact .nil _ | exact .d _ | exact .rs rfl)) .nil)), ?_⟩
      rw [hz]; rfl
    ·
      (try simp only [decide_eq_true_eq, decide_eq_false_iff_not, Bool.and_eq_true, Bool.or_eq_true, Bool.and_eq_false_iff, Bool.or_eq_false_iff, Bool.not_eq_true', Bool.not_eq_false', Bool.not_true, Bool.not_false, bif_and, bif_or, Bool.not_not, ne_eq, Decidable.not_not, not_true_eq_false, not_false_eq_true, Int.not_le, Int.not_lt] at hc3)
      have hbad0 : badI l = false := hc3
      refine awp_seq ?_
      refine awp_region 9 mixed (by kernel_rfl) ?_
      refine rg_q (q_move (x := .d (.v _)) rfl) ?_
      first | refine rg_q (q_call en86 (.cons rfl .nil) rfl (echoErr_p _)) ?_ | refine rg_q (q_callF en86 (.cons (by first | exact .d _ | exact .rs rfl | exact .ref rfl | exact .nil _ | exact .tref rfl (by repeat (first | exact .nil | refine .cons (.d _ rfl) ?_ | refine .cons (.rs rfl) ?_))) .nil) rfl (echoErr_p _) (by first | exact .v _ | exact D.Flat.tupF (by repeat first | exact trivial | refine ⟨.v _, ?_⟩) | exact D.Flat.aggF (by repeat first | exact trivial | refine ⟨.v _, ?_⟩))) ?_
      refine rg_q (q_neq rfl rfl) ?_
      refine rg_q (q_move (x := .d (.v _)) rfl) ?_
      refine rg_g rfl rfl (fun hG => (q_move (x := .d (.v _)) rfl)) ?_
      first | refine rg_g rfl rfl (fun hG => (q_call en73 (.cons rfl (.cons rfl (.cons rfl .nil))) rfl (within_p _ _ _))) ?_ | refine rg_g rfl rfl (fun hG => (q_callF en73 (.cons (by first | exact .d _ | exact .rs rfl | exact .ref rfl | exact .nil _ | exact .tref rfl (by repeat (first | exact .nil | refine .cons (.d _ rfl) ?_ | refine .cons (.rs rfl) ?_))) (.cons (by first | exact .d _ | exact .rs rfl | exact .ref rfl | exact .nil _ | exact .tref rfl (by repeat (first | exact .nil | refine .cons (.d _ rfl) ?_ | refine .cons (.rs rfl) ?_))) (.cons (by first | exact .d _ | exact .rs rfl | exact .ref rfl | exact .nil _ | exact .tref rfl (by repeat (first | exact .nil | refine .cons (.d _ rfl) ?_ | refine .cons (.rs rfl) ?_))) .nil))) rfl (within_p _ _ _) (by first | exact .v _ | exact D.Flat.tupF (by repeat first | exact trivial | refine ⟨.v _, ?_⟩) | exact D.Flat.aggF (by repeat first | exact trivial | refine ⟨.v _, ?_⟩)))) ?_
      refine rg_g rfl rfl (fun hG => (q_not rfl)) ?_
      first | refine rg_pick rfl rfl rfl rfl rfl rfl ?_ | refine rg_q (q_pick rfl rfl rfl) ?_
      refine rg_q (q_assign (x := .d (.v _)) rfl) ?_
      refine rg_nil ?_
      refine aops_nil ?_
      change Awp _ _ _ _ _
      refine awp_cond rfl (fun hc5 => ?_) (fun hc5 => ?_)
      ·
        (try simp only [decide_eq_true_eq, decide_eq_false_iff_not, Bool.and_eq_true, Bool.or_eq_true, Bool.and_eq_false_iff, Bool.or_eq_false_iff, Bool.not_eq_true', Bool.not_eq_false', Bool.not_true, Bool.not_false, bif_and, bif_or, Bool.not_not, ne_eq, Decidable.not_not, not_true_eq_false, not_false_eq_true, Int.not_le, Int.not_lt] at hc5)
        have hz : unevS l r s = ([], 2) := by unfold unevS; rw [if_neg (by omega), if_neg (by simp [hbad0]), if_pos (by simpa using hc5)]
        refine awp_seq ?_
        refine awp_region 2 mixed (by kernel_rfl) ?_
        first | refine rg_q (q_assign (x := .d (.sl _ _)) rfl) ?_ | refine rg_q (q_assign (x := .rs _) rfl) ?_ | refine rg_q (q_assign (x := .d (.v _)) rfl) ?_
        refine rg_q (q_assign (x := .d (.v _)) rfl) ?_
        refine rg_nil ?_
        refine aops_nil ?_
        change Awp _ _ _ _ _
        refine awp_ret ?_
        refine ⟨_, (.cons (.tmp (by first | exact .nil _ | exact .d _ | exact .rs rfl)) (.cons (.tmp (by first | exact .nil _ | exact .d _ | exact .rs rfl)) .nil)), ?_⟩
        rw [hz]; rfl
      ·
        (try simp only [decide_eq_true_eq, decide_eq_false_iff_not, Bool.and_eq_true, Bool.or_eq_true, Bool.and_eq_false_iff, Bool.or_eq_false_iff, Bool.not_eq_true', Bool.not_eq_false', Bool.not_true, Bool.not_false, bif_and, bif_or, Bool.not_not, ne_eq, Decidable.not_not, not_true_eq_false, not_false_eq_true, Int.not_le, Int.not_lt] at hc5)
        have hok0 : (decide (echoE r ≠ 0) || !inR 0 s 1000) = false := by simpa using hc5
        have hbad : badI l = false := by simpa using hbad0
        have hok : (decide (echoE r ≠ 0) || !inR 0 s 1000) = false := by simpa using hok0
        have hr : echoE r = 0 ∧ inR 0 s 1000 = true := by simpa using hok
        obtain ⟨r1, r2⟩ := echoE_in hr.1
        have hs2 := hr.2
        simp [inR] at hs2
        obtain ⟨s1, s2⟩ := hs2
        have hz : unevS l r s = (unL r s 0 l, 0) := by unfold unevS; rw [if_neg (by omega), if_neg (by simp [hbad]), if_neg (by rw [hok]; simp)]
        refine awp_skip ?_
        change Awp _ _ _ _ _
        refine awp_seq ?_
        refine awp_region 1 mixed (by kernel_rfl) ?_
        refine rg_q (q_assign_nil) ?_
        refine rg_nil ?_
        refine aops_nil ?_
        change Awp _ _ _ _ _
        refine Awp.le (le_own (k := 8) (e := 3) (sz := 1) rfl rfl) ?_
        refine awp_seq ?_
        refine awp_seq ?_
        refine awp_region 3 mixed (by kernel_rfl) ?_
        first | refine rg_q (q_move (x := .d (.sl _ _)) rfl) ?_ | refine rg_q (q_move (x := .rs _) rfl) ?_ | refine rg_q (q_move (x := .d (.v _)) rfl) ?_
        first | refine rg_q (q_len isl25 rfl (by first | exact len_map _ _ | rfl)) ?_ | refine rg_q (q_len_rs isl25 rfl rfl) ?_ | refine rg_q (q_len_nil isl25 rfl) ?_
        refine rg_q (q_move (x := .d (.v _)) rfl) ?_
        refine rg_nil ?_
        refine aops_nil ?_
        change Awp _ _ _ _ _
        first | refine awp_len (t := 27) rfl (fun hl27 => ?_) | skip
        (try simp only [List.length_map] at hl27)
        refine awp_block ?_
        refine awp_loopH [8, 9, 10, 29, 30, 31, 32, 33, 34, 35, 36, 37, 38, 39, 40, 41, 42, 43, 44, 45, 46, 47] [8] (α := Nat × List Int) (fun p => [(29, T.i (p.1 : Int)), (8, .rs 8)]) (fun p => [(8, .row 3 1 (p.2.map iC))]) (fun p => p.1 ≤ l.length ∧ p.2.length ≤ p.1 ∧ unL r s 0 l = p.2 ++ unL r s p.1 (l.drop p.1)) (fun p => l.length - p.1) (0, []) ⟨Nat.zero_le _, Nat.le_refl _, rfl⟩ ?_ ?_
        · exact le_head (ms := [8]) (by repeat (first | exact Out.refl _ | exact Out.head rfl rfl | (refine Out.put ?_ rfl) | (refine Out.site ?_ rfl) | (refine Out.putn ?_) | (refine Out.headIn ?_ rfl rfl rfl) | (refine Out.called ?_ rfl rfl) | (refine Out.killS ?_ rfl))) ⟨(by first | rfl | (show Site.row 3 1 (List.map iC out ++ [iC (k : Int)]) = _; simp; done)), (by first | rfl | (show Site.row 3 1 (List.map iC out ++ [iC (k : Int)]) = _; simp; done)), trivial⟩ ⟨(by first | rfl | (show Site.row 3 1 (List.map iC out ++ [iC (k : Int)]) = _; simp; done)), trivial⟩ rfl rfl rfl rfl
        ·
          intro ⟨k, out⟩ ⟨hk, ho, hh⟩
          simp only at hk ho hh
          refine awp_seq ?_
          refine awp_region 1 mixed (by kernel_rfl) ?_
          refine rg_q (q_lss rfl rfl) ?_
          refine rg_nil ?_
          refine aops_nil ?_
          change Awp _ _ _ _ _
          refine awp_seq ?_
          refine awp_cond rfl (fun hc9 => ?_) (fun hc9 => ?_)
          ·
            (try simp only [decide_eq_true_eq, decide_eq_false_iff_not, Bool.and_eq_true, Bool.or_eq_true, Bool.and_eq_false_iff, Bool.or_eq_false_iff, Bool.not_eq_true', Bool.not_eq_false', Bool.not_true, Bool.not_false, bif_and, bif_or, Bool.not_not, ne_eq, Decidable.not_not, not_true_eq_false, not_false_eq_true, Int.not_le, Int.not_lt] at hc9)
            have hlt : k < l.length := by omega
            obtain ⟨x, hx⟩ : ∃ x, l[k]? = some x := ⟨_, List.getElem?_eq_getElem hlt⟩
            have hd := unL_take (r := r) (s := s) hx
            obtain ⟨x1, x2⟩ := badI_at hbad hx
            have m1 := mulb (a := s) (b := r) (A := 1000) (B := 1000000) (by omega) (by omega) (by omega) (by omega)
            refine awp_skip ?_
            change Awp _ _ _ _ _
            refine awp_seq ?_
            refine awp_block ?_
            refine awp_seq ?_
            refine awp_region 5 mixed (by kernel_rfl) ?_
            refine rg_q (q_move (x := .d (.v _)) rfl) ?_
            first | refine rg_q (q_indexAddr sl25 rfl rfl (by omega) (map_at (by omega) hx)) ?_ | refine rg_q (q_indexAddr_rs sl25 rfl rfl rfl (by omega) (by omega)) ?_
            first | refine rg_q (q_load sz3 rfl rfl) ?_ | refine rg_q (q_load_ref sz3 rfl rfl rfl) ?_ | refine rg_q (q_load_tb (x := .d _) sz3 rfl rfl rfl) ?_ | refine rg_q (q_load_tb (x := .rs _) sz3 rfl rfl rfl) ?_
            refine rg_q (q_assign (x := .d (.v _)) rfl) ?_
            refine rg_q (q_assign (x := .d (.v _)) rfl) ?_
            refine rg_nil ?_
            refine aops_nil ?_
            change Awp _ _ _ _ _
            refine awp_seq ?_
            refine awp_region 9 mixed (by kernel_rfl) ?_
            refine rg_q (q_move (x := .d (.v _)) rfl) ?_
            refine rg_q (q_move (x := .d (.v _)) rfl) ?_
            refine rg_q (q_sub rfl rfl (In64.mk (by omega) (by omega))) ?_
            first | refine rg_q (q_call en99 (.cons rfl .nil) rfl (size_p _ ⟨by omega, by omega⟩)) ?_ | refine rg_q (q_callF en99 (.cons (by first | exact .d _ | exact .rs rfl | exact .ref rfl | exact .nil _ | exact .tref rfl (by repeat (first | exact .nil | refine .cons (.d _ rfl) ?_ | refine .cons (.rs rfl) ?_))) .nil) rfl (size_p _ ⟨by omega, by omega⟩) (by first | exact .v _ | exact D.Flat.tupF (by repeat first | exact trivial | refine ⟨.v _, ?_⟩) | exact D.Flat.aggF (by repeat first | exact trivial | refine ⟨.v _, ?_⟩))) ?_
            refine rg_q (q_mul rfl rfl (In64.mk (by omega) (by omega))) ?_
            refine rg_q (q_move (x := .d (.v _)) rfl) ?_
            refine rg_q (q_move (x := .d (.v _)) rfl) ?_
            refine rg_q (q_mul rfl rfl (In64.mk (by omega) (by omega))) ?_
            refine rg_q (q_gtr rfl rfl) ?_
            refine rg_nil ?_
            refine aops_nil ?_
            change Awp _ _ _ _ _
            refine awp_cond rfl (fun hc11 => ?_) (fun hc11 => ?_)
            ·
              (try simp only [decide_eq_true_eq, decide_eq_false_iff_not, Bool.and_eq_true, Bool.or_eq_true, Bool.and_eq_false_iff, Bool.or_eq_false_iff, Bool.not_eq_true', Bool.not_eq_false', Bool.not_true, Bool.not_false, bif_and, bif_or, Bool.not_not, ne_eq, Decidable.not_not, not_true_eq_false, not_false_eq_true, Int.not_le, Int.not_lt] at hc11)
              have hu : unP r s x = true := decide_eq_true hc11
              refine awp_region 3 mixed (by kernel_rfl) ?_
              first | refine rg_q (q_move (x := .d (.sl _ _)) rfl) ?_ | refine rg_q (q_move (x := .rs _) rfl) ?_ | refine rg_q (q_move (x := .d (.v _)) rfl) ?_
              refine rg_q (q_move (x := .d (.v _)) rfl) ?_
              refine rg_q (q_buildSlice sl25 zr3 rfl rfl (by decide) (.cons rfl (by first | exact .inl rfl | exact .inr ⟨_, rfl⟩) .nil) ⟨rfl, rfl, trivial⟩ rfl (by decide) rfl) ?_
              refine rg_nil ?_
              first | refine aops_append sl25 zr3 by3 rfl (by decide) rfl rfl rfl rfl (by (try simp only [List.length_map, List.length_append, List.length_cons, List.length_nil]); omega) (by (try simp only [List.length_map, List.length_append, List.length_cons, List.length_nil]); omega) rfl rfl ?_ | refine aops_appendR sl25 zr3 by3 rfl (by decide) rfl rfl rfl rfl rfl (by (try simp only [List.length_map, List.length_append, List.length_cons, List.length_nil]); omega) (by (try simp only [List.length_map, List.length_append, List.length_cons, List.length_nil]); omega) rfl rfl ?_
              first | refine aops_q rfl (q_assign (x := .d (.sl _ _)) rfl) ?_ | refine aops_q rfl (q_assign (x := .rs _) rfl) ?_ | refine aops_q rfl (q_assign (x := .d (.v _)) rfl) ?_
              refine aops_nil ?_
              change Awp _ _ _ _ _
              refine awp_region 2 mixed (by kernel_rfl) ?_
              refine rg_q (q_add rfl rfl (In64.mk (by omega) (by omega))) ?_
              refine rg_q (q_move (x := .d (.v _)) rfl) ?_
              refine rg_nil ?_
              refine aops_nil ?_
              refine ⟨(k + 1, out ++ [(k : Int)]), ⟨by simp only; omega, by simp only [List.length_append, List.length_singleton]; omega, by rw [hh, hd, if_pos hu]; simp⟩, by simp only; omega, ?_⟩
              exact le_head (ms := [8]) (by repeat (first | exact Out.refl _ | exact Out.head rfl rfl | (refine Out.put ?_ rfl) | (refine Out.site ?_ rfl) | (refine Out.putn ?_) | (refine Out.headIn ?_ rfl rfl rfl) | (refine Out.called ?_ rfl rfl) | (refine Out.killS ?_ rfl))) ⟨(by first | rfl | (show Site.row 3 1 (List.map iC out ++ [iC (k : Int)]) = _; simp; done)), (by first | rfl | (show Site.row 3 1 (List.map iC out ++ [iC (k : Int)]) = _; simp; done)), trivial⟩ ⟨(by first | rfl | (show Site.row 3 1 (List.map iC out ++ [iC (k : Int)]) = _; simp; done)), trivial⟩ rfl rfl rfl rfl
            ·
              (try simp only [decide_eq_true_eq, decide_eq_false_iff_not, Bool.and_eq_true, Bool.or_eq_true, Bool.and_eq_false_iff, Bool.or_eq_false_iff, Bool.not_eq_true', Bool.not_eq_false', Bool.not_true, Bool.not_false, bif_and, bif_or, Bool.not_not, ne_eq, Decidable.not_not, not_true_eq_false, not_false_eq_true, Int.not_le, Int.not_lt] at hc11)
              have hu : ¬ unP r s x = true := by simp [unP]; omega
              refine awp_skip ?_
              change Awp _ _ _ _ _
              refine awp_region 2 mixed (by kernel_rfl) ?_
              refine rg_q (q_add rfl rfl (In64.mk (by omega) (by omega))) ?_
              refine rg_q (q_move (x := .d (.v _)) rfl) ?_
              refine rg_nil ?_
              refine aops_nil ?_
              refine ⟨(k + 1, out), ⟨by simp only; omega, by simp only; omega, by rw [hh, hd, if_neg hu]⟩, by simp only; omega, ?_⟩
              exact le_head (ms := [8]) (by repeat (first | exact Out.refl _ | exact Out.head rfl rfl | (refine Out.put ?_ rfl) | (refine Out.site ?_ rfl) | (refine Out.putn ?_) | (refine Out.headIn ?_ rfl rfl rfl) | (refine Out.called ?_ rfl rfl) | (refine Out.killS ?_ rfl))) ⟨(by first | rfl | (show Site.row 3 1 (List.map iC out ++ [iC (k : Int)]) = _; simp; done)), (by first | rfl | (show Site.row 3 1 (List.map iC out ++ [iC (k : Int)]) = _; simp; done)), trivial⟩ ⟨(by first | rfl | (show Site.row 3 1 (List.map iC out ++ [iC (k : Int)]) = _; simp; done)), trivial⟩ rfl rfl rfl rfl
          ·
            (try simp only [decide_eq_true_eq, decide_eq_false_iff_not, Bool.and_eq_true, Bool.or_eq_true, Bool.and_eq_false_iff, Bool.or_eq_false_iff, Bool.not_eq_true', Bool.not_eq_false', Bool.not_true, Bool.not_false, bif_and, bif_or, Bool.not_not, ne_eq, Decidable.not_not, not_true_eq_false, not_false_eq_true, Int.not_le, Int.not_lt] at hc9)
            refine awp_exit ?_
            change Awp _ _ _ _ _
            refine awp_seq ?_
            refine awp_region 3 mixed (by kernel_rfl) ?_
            first | refine rg_q (q_move (x := .d (.sl _ _)) rfl) ?_ | refine rg_q (q_move (x := .rs _) rfl) ?_ | refine rg_q (q_move (x := .d (.v _)) rfl) ?_
            first | refine rg_q (q_assign (x := .d (.sl _ _)) rfl) ?_ | refine rg_q (q_assign (x := .rs _) rfl) ?_ | refine rg_q (q_assign (x := .d (.v _)) rfl) ?_
            refine rg_q (q_assign (x := .d (.v _)) rfl) ?_
            refine rg_nil ?_
            refine aops_nil ?_
            change Awp _ _ _ _ _
            refine awp_ret ?_
            refine ⟨_, (.cons (.tmp (by first | exact .nil _ | exact .d _ | exact .rs rfl)) (.cons (.tmp (by first | exact .nil _ | exact .d _ | exact .rs rfl)) .nil)), ?_⟩
            rw [hz, hh, List.drop_of_length_le (by omega)]; simp [unL, retD]
set_option maxRecDepth 100000 in
theorem rUneven_p (l : List Int) (r s : Int) : PC Try.prog 47 [.sl 1 (l.map iC), .v (.int .i64 (r)), .v (.int .i64 (s))] (.tup [.sl 1 ((unevS l r s).1.map iC), .v (.int .i64 ((unevS l r s).2))]) := by
  refine pc_of_awp Try.func47 rfl Try.ntmps47 (rs := [.tmp 6, .tmp 7]) Try.results47 (by simp) fun w0 => ?_
  refine awp_seq ?_
  refine awp_region 2 mixed (by kernel_rfl) ?_
  first | refine rg_q (q_assign (x := .d (.sl _ _)) rfl) ?_ | refine rg_q (q_assign (x := .rs _) rfl) ?_ | refine rg_q (q_assign (x := .d (.v _)) rfl) ?_
  refine rg_q (q_assign (x := .d (.v _)) rfl) ?_
  refine rg_nil ?_
  refine aops_nil ?_
  change Awp _ _ _ _ _
  refine awp_seq ?_
  refine awp_seq ?_
  refine awp_region 3 mixed (by kernel_rfl) ?_
  first | refine rg_q (q_move (x := .d (.sl _ _)) rfl) ?_ | refine rg_q (q_move (x := .rs _) rfl) ?_ | refine rg_q (q_move (x := .d (.v _)) rfl) ?_
  first | refine rg_q (q_len isl25 rfl (by first | exact len_map _ _ | rfl)) ?_ | refine rg_q (q_len_rs isl25 rfl rfl) ?_ | refine rg_q (q_len_nil isl25 rfl) ?_
  refine rg_q (q_gtr rfl rfl) ?_
  refine rg_nil ?_
  refine aops_nil ?_
  change Awp _ _ _ _ _
  first | refine awp_len (t := 11) rfl (fun hl11 => ?_) | skip
  (try simp only [List.length_map] at hl11)
  refine awp_cond rfl (fun hc1 => ?_) (fun hc1 => ?_)
  ·
    (try simp only [decide_eq_true_eq, decide_eq_false_iff_not, Bool.and_eq_true, Bool.or_eq_true, Bool.and_eq_false_iff, Bool.or_eq_false_iff, Bool.not_eq_true', Bool.not_eq_false', Bool.not_true, Bool.not_false, bif_and, bif_or, Bool.not_not, ne_eq, Decidable.not_not, not_true_eq_false, not_false_eq_true, Int.not_le, Int.not_lt] at hc1)
    have hz : unevS l r s = ([], 8) := by unfold unevS; rw [if_pos (by omega)]
    refine awp_seq ?_
    refine awp_region 2 mixed (by kernel_rfl) ?_
    first | refine rg_q (q_assign (x := .d (.sl _ _)) rfl) ?_ | refine rg_q (q_assign (x := .rs _) rfl) ?_ | refine rg_q (q_assign (x := .d (.v _)) rfl) ?_
    refine rg_q (q_assign (x := .d (.v _)) rfl) ?_
    refine rg_nil ?_
    refine aops_nil ?_
    change Awp _ _ _ _ _
    refine awp_ret ?_
    refine ⟨_, (.cons (.tmp (by first | exact .nil _ | exact .d _ | exact .rs rfl)) (.cons (.tmp (by first | exact .nil _ | exact .d _ | exact .rs rfl)) .nil)), ?_⟩
    rw [hz]; rfl
  ·
    (try simp only [decide_eq_true_eq, decide_eq_false_iff_not, Bool.and_eq_true, Bool.or_eq_true, Bool.and_eq_false_iff, Bool.or_eq_false_iff, Bool.not_eq_true', Bool.not_eq_false', Bool.not_true, Bool.not_false, bif_and, bif_or, Bool.not_not, ne_eq, Decidable.not_not, not_true_eq_false, not_false_eq_true, Int.not_le, Int.not_lt] at hc1)
    refine awp_skip ?_
    change Awp _ _ _ _ _
    refine awp_seq ?_
    refine awp_seq ?_
    refine awp_region 1 mixed (by kernel_rfl) ?_
    refine rg_q (q_assign (x := .d (.v _)) rfl) ?_
    refine rg_nil ?_
    refine aops_nil ?_
    change Awp _ _ _ _ _
    refine awp_block ?_
    refine awp_loopH [6, 7, 8, 14, 15, 16, 17, 18, 19, 20, 21, 22, 23, 24, 25] [] (α := Nat) (fun k => [(8, T.i (k : Int))]) (fun k => []) (fun k => k ≤ l.length ∧ ∀ i, i < k → ∀ y, l[i]? = some y → inR 0 y 1000000 = true) (fun k => l.length - k) 0 ⟨Nat.zero_le _, fun i hi => by omega⟩ ?_ ?_
    · exact le_head (ms := []) (by repeat (first | exact Out.refl _ | exact Out.head rfl rfl | (refine Out.put ?_ rfl) | (refine Out.site ?_ rfl) | (refine Out.putn ?_) | (refine Out.headIn ?_ rfl rfl rfl) | (refine Out.called ?_ rfl rfl) | (refine Out.killS ?_ rfl))) ⟨(by first | rfl | (simp; done)), trivial⟩ trivial rfl rfl rfl rfl
    ·
      intro k ⟨hk, hh⟩
      refine awp_seq ?_
      refine awp_seq ?_
      refine awp_region 4 mixed (by kernel_rfl) ?_
      refine rg_q (q_move (x := .d (.v _)) rfl) ?_
      first | refine rg_q (q_move (x := .d (.sl _ _)) rfl) ?_ | refine rg_q (q_move (x := .rs _) rfl) ?_ | refine rg_q (q_move (x := .d (.v _)) rfl) ?_
      first | refine rg_q (q_len isl25 rfl (by first | exact len_map _ _ | rfl)) ?_ | refine rg_q (q_len_rs isl25 rfl rfl) ?_ | refine rg_q (q_len_nil isl25 rfl) ?_
      refine rg_q (q_lss rfl rfl) ?_
      refine rg_nil ?_
      refine aops_nil ?_
      change Awp _ _ _ _ _
      first | refine awp_len (t := 15) rfl (fun hl15 => ?_) | skip
      (try simp only [List.length_map] at hl15)
      refine awp_cond rfl (fun hc4 => ?_) (fun hc4 => ?_)
      ·
        (try simp only [decide_eq_true_eq, decide_eq_false_iff_not, Bool.and_eq_true, Bool.or_eq_true, Bool.and_eq_false_iff, Bool.or_eq_false_iff, Bool.not_eq_true', Bool.not_eq_false', Bool.not_true, Bool.not_false, bif_and, bif_or, Bool.not_not, ne_eq, Decidable.not_not, not_true_eq_false, not_false_eq_true, Int.not_le, Int.not_lt] at hc4)
        have hlt : k < l.length := by omega
        obtain ⟨x, hx⟩ : ∃ x, l[k]? = some x := ⟨_, List.getElem?_eq_getElem hlt⟩
        refine awp_skip ?_
        change Awp _ _ _ _ _
        refine awp_seq ?_
        refine awp_block ?_
        refine awp_seq ?_
        refine awp_region 6 mixed (by kernel_rfl) ?_
        first | refine rg_q (q_move (x := .d (.sl _ _)) rfl) ?_ | refine rg_q (q_move (x := .rs _) rfl) ?_ | refine rg_q (q_move (x := .d (.v _)) rfl) ?_
        refine rg_q (q_move (x := .d (.v _)) rfl) ?_
        first | refine rg_q (q_indexAddr sl25 rfl rfl (by omega) (map_at (by omega) hx)) ?_ | refine rg_q (q_indexAddr_rs sl25 rfl rfl rfl (by omega) (by omega)) ?_
        first | refine rg_q (q_load sz3 rfl rfl) ?_ | refine rg_q (q_load_ref sz3 rfl rfl rfl) ?_ | refine rg_q (q_load_tb (x := .d _) sz3 rfl rfl rfl) ?_ | refine rg_q (q_load_tb (x := .rs _) sz3 rfl rfl rfl) ?_
        first | refine rg_q (q_call en21 (.cons rfl (.cons rfl (.cons rfl .nil))) rfl (Within_p _ _ _)) ?_ | refine rg_q (q_callF en21 (.cons (by first | exact .d _ | exact .rs rfl | exact .ref rfl | exact .nil _ | exact .tref rfl (by repeat (first | exact .nil | refine .cons (.d _ rfl) ?_ | refine .cons (.rs rfl) ?_))) (.cons (by first | exact .d _ | exact .rs rfl | exact .ref rfl | exact .nil _ | exact .tref rfl (by repeat (first | exact .nil | refine .cons (.d _ rfl) ?_ | refine .cons (.rs rfl) ?_))) (.cons (by first | exact .d _ | exact .rs rfl | exact .ref rfl | exact .nil _ | exact .tref rfl (by repeat (first | exact .nil | refine .cons (.d _ rfl) ?_ | refine .cons (.rs rfl) ?_))) .nil))) rfl (Within_p _ _ _) (by first | exact .v _ | exact D.Flat.tupF (by repeat first | exact trivial | refine ⟨.v _, ?_⟩) | exact D.Flat.aggF (by repeat first | exact trivial | refine ⟨.v _, ?_⟩))) ?_
        refine rg_q (q_not rfl) ?_
        refine rg_nil ?_
        refine aops_nil ?_
        change Awp _ _ _ _ _
        refine awp_cond rfl (fun hc6 => ?_) (fun hc6 => ?_)
        ·
          (try simp only [decide_eq_true_eq, decide_eq_false_iff_not, Bool.and_eq_true, Bool.or_eq_true, Bool.and_eq_false_iff, Bool.or_eq_false_iff, Bool.not_eq_true', Bool.not_eq_false', Bool.not_true, Bool.not_false, bif_and, bif_or, Bool.not_not, ne_eq, Decidable.not_not, not_true_eq_false, not_false_eq_true, Int.not_le, Int.not_lt] at hc6)
          have hb : badI l = true := List.any_eq_true.2 ⟨x, List.mem_of_getElem? hx, by simpa using hc6⟩
          have hz : unevS l r s = ([], 2) := by unfold unevS; rw [if_neg (by omega), if_pos hb]
          refine awp_seq ?_
          refine awp_region 2 mixed (by kernel_rfl) ?_
          first | refine rg_q (q_assign (x := .d (.sl _ _)) rfl) ?_ | refine rg_q (q_assign (x := .rs _) rfl) ?_ | refine rg_q (q_assign (x := .d (.v _)) rfl) ?_
          refine rg_q (q_assign (x := .d (.v _)) rfl) ?_
          refine rg_nil ?_
          refine aops_nil ?_
          change Awp _ _ _ _ _
          refine awp_ret ?_
          refine ⟨_, (.cons (.tmp (by first | exact .nil _ | exact .d _ | exact .rs rfl)) (.cons (.tmp (by first | exact .nil _ | exact .d _ | exact .rs rfl)) .nil)), ?_⟩
          rw [hz]; rfl
        ·
          (try simp only [decide_eq_true_eq, decide_eq_false_iff_not, Bool.and_eq_true, Bool.or_eq_true, Bool.and_eq_false_iff, Bool.or_eq_false_iff, Bool.not_eq_true', Bool.not_eq_false', Bool.not_true, Bool.not_false, bif_and, bif_or, Bool.not_not, ne_eq, Decidable.not_not, not_true_eq_false, not_false_eq_true, Int.not_le, Int.not_lt] at hc6)
          refine awp_skip ?_
          change Awp _ _ _ _ _
          refine awp_region 3 mixed (by kernel_rfl) ?_
          refine rg_q (q_move (x := .d (.v _)) rfl) ?_
          refine rg_q (q_add rfl rfl (In64.mk (by omega) (by omega))) ?_
          refine rg_q (q_assign (x := .d (.v _)) rfl) ?_
          refine rg_nil ?_
          refine aops_nil ?_
          refine ⟨k + 1, ⟨by omega, (fun i hi y hy => if e : i = k then (by subst e; rw [hx] at hy; cases hy; simpa using hc6) else hh i (by omega) y hy)⟩, by omega, ?_⟩
          exact le_head (ms := []) (by repeat (first | exact Out.refl _ | exact Out.head rfl rfl | (refine Out.put ?_ rfl) | (refine Out.site ?_ rfl) | (refine Out.putn ?_) | (refine Out.headIn ?_ rfl rfl rfl) | (refine Out.called ?_ rfl rfl) | (refine Out.killS ?_ rfl))) ⟨(by first | rfl | (simp; done)), trivial⟩ trivial rfl rfl rfl rfl
      ·
        (try simp only [decide_eq_true_eq, decide_eq_false_iff_not, Bool.and_eq_true, Bool.or_eq_true, Bool.and_eq_false_iff, Bool.or_eq_false_iff, Bool.not_eq_true', Bool.not_eq_false', Bool.not_true, Bool.not_false, bif_and, bif_or, Bool.not_not, ne_eq, Decidable.not_not, not_true_eq_false, not_false_eq_true, Int.not_le, Int.not_lt] at hc4)
        have hbad0 : badI l = false := List.any_eq_false.2 fun y hy => by
          obtain ⟨i, hi⟩ := List.getElem?_of_mem hy
          have := (List.getElem?_eq_some_iff.1 hi).1
          rw [hh i (by omega) y hi]; simp
        refine awp_exit ?_
        change Awp _ _ _ _ _
        refine awp_seq ?_
        refine awp_seq ?_
        refine awp_region 8 mixed (by kernel_rfl) ?_
        refine rg_q (q_move (x := .d (.v _)) rfl) ?_
        first | refine rg_q (q_call en39 (.cons rfl .nil) rfl (EchoErr_p _)) ?_ | refine rg_q (q_callF en39 (.cons (by first | exact .d _ | exact .rs rfl | exact .ref rfl | exact .nil _ | exact .tref rfl (by repeat (first | exact .nil | refine .cons (.d _ rfl) ?_ | refine .cons (.rs rfl) ?_))) .nil) rfl (EchoErr_p _) (by first | exact .v _ | exact D.Flat.tupF (by repeat first | exact trivial | refine ⟨.v _, ?_⟩) | exact D.Flat.aggF (by repeat first | exact trivial | refine ⟨.v _, ?_⟩))) ?_
        refine rg_q (q_neq rfl rfl) ?_
        refine rg_q (q_move (x := .d (.v _)) rfl) ?_
        refine rg_g rfl rfl (fun hG => (q_move (x := .d (.v _)) rfl)) ?_
        first | refine rg_g rfl rfl (fun hG => (q_call en21 (.cons rfl (.cons rfl (.cons rfl .nil))) rfl (Within_p _ _ _))) ?_ | refine rg_g rfl rfl (fun hG => (q_callF en21 (.cons (by first | exact .d _ | exact .rs rfl | exact .ref rfl | exact .nil _ | exact .tref rfl (by repeat (first | exact .nil | refine .cons (.d _ rfl) ?_ | refine .cons (.rs rfl) ?_))) (.cons (by first | exact .d _ | exact .rs rfl | exact .ref rfl | exact .nil _ | exact .tref rfl (by repeat (first | exact .nil | refine .cons (.d _ rfl) ?_ | refine .cons (.rs rfl) ?_))) (.cons (by first | exact .d _ | exact .rs rfl | exact .ref rfl | exact .nil _ | exact .tref rfl (by repeat (first | exact .nil | refine .cons (.d _ rfl) ?_ | refine .cons (.rs rfl) ?_))) .nil))) rfl (Within_p _ _ _) (by first | exact .v _ | exact D.Flat.tupF (by repeat first | exact trivial | refine ⟨.v _, ?_⟩) | exact D.Flat.aggF (by repeat first | exact trivial | refine ⟨.v _, ?_⟩)))) ?_
        refine rg_g rfl rfl (fun hG => (q_not rfl)) ?_
        first | refine rg_pick rfl rfl rfl rfl rfl rfl ?_ | refine rg_q (q_pick rfl rfl rfl) ?_
        refine rg_nil ?_
        refine aops_nil ?_
        change Awp _ _ _ _ _
        refine awp_cond rfl (fun hc8 => ?_) (fun hc8 => ?_)
        ·
          (try simp only [decide_eq_true_eq, decide_eq_false_iff_not, Bool.and_eq_true, Bool.or_eq_true, Bool.and_eq_false_iff, Bool.or_eq_false_iff, Bool.not_eq_true', Bool.not_eq_false', Bool.not_true, Bool.not_false, bif_and, bif_or, Bool.not_not, ne_eq, Decidable.not_not, not_true_eq_false, not_false_eq_true, Int.not_le, Int.not_lt] at hc8)
          have hz : unevS l r s = ([], 2) := by unfold unevS; rw [if_neg (by omega), if_neg (by simp [hbad0]), if_pos (by simpa using hc8)]
          refine awp_seq ?_
          refine awp_region 2 mixed (by kernel_rfl) ?_
          first | refine rg_q (q_assign (x := .d (.sl _ _)) rfl) ?_ | refine rg_q (q_assign (x := .rs _) rfl) ?_ | refine rg_q (q_assign (x := .d (.v _)) rfl) ?_
          refine rg_q (q_assign (x := .d (.v _)) rfl) ?_
          refine rg_nil ?_
          refine aops_nil ?_
          change Awp _ _ _ _ _
          refine awp_ret ?_
          refine ⟨_, (.cons (.tmp (by first | exact .nil _ | exact .d _ | exact .rs rfl)) (.cons (.tmp (by first | exact .nil _ | exact .d _ | exact .rs rfl)) .nil)), ?_⟩
          rw [hz]; rfl
        ·
          (try simp only [decide_eq_true_eq, decide_eq_false_iff_not, Bool.and_eq_true, Bool.or_eq_true, Bool.and_eq_false_iff, Bool.or_eq_false_iff, Bool.not_eq_true', Bool.not_eq_false', Bool.not_true, Bool.not_false, bif_and, bif_or, Bool.not_not, ne_eq, Decidable.not_not, not_true_eq_false, not_false_eq_true, Int.not_le, Int.not_lt] at hc8)
          have hok0 : (decide (echoE r ≠ 0) || !inR 0 s 1000) = false := by simpa using hc8
          have hbad : badI l = false := by simpa using hbad0
          have hok : (decide (echoE r ≠ 0) || !inR 0 s 1000) = false := by simpa using hok0
          have hr : echoE r = 0 ∧ inR 0 s 1000 = true := by simpa using hok
          obtain ⟨r1, r2⟩ := echoE_in hr.1
          have hs2 := hr.2
          simp [inR] at hs2
          obtain ⟨s1, s2⟩ := hs2
          have hz : unevS l r s = (unL r s 0 l, 0) := by unfold unevS; rw [if_neg (by omega), if_neg (by simp [hbad]), if_neg (by rw [hok]; simp)]
          refine awp_skip ?_
          change Awp _ _ _ _ _
          refine awp_seq ?_
          refine awp_region 1 mixed (by kernel_rfl) ?_
          refine rg_q (q_assign_nil) ?_
          refine rg_nil ?_
          refine aops_nil ?_
          change Awp _ _ _ _ _
          refine Awp.le (le_own (k := 9) (e := 3) (sz := 1) rfl rfl) ?_
          refine awp_seq ?_
          refine awp_seq ?_
          refine awp_region 1 mixed (by kernel_rfl) ?_
          refine rg_q (q_assign (x := .d (.v _)) rfl) ?_
          refine rg_nil ?_
          refine aops_nil ?_
          change Awp _ _ _ _ _
          refine awp_block ?_
          refine awp_loopH [9, 10, 34, 35, 36, 37, 38, 39, 40, 41, 42, 43, 44, 45, 46, 47, 48, 49, 50, 51, 52, 53, 54, 55] [9] (α := Nat × List Int) (fun p => [(10, T.i (p.1 : Int)), (9, .rs 9)]) (fun p => [(9, .row 3 1 (p.2.map iC))]) (fun p => p.1 ≤ l.length ∧ p.2.length ≤ p.1 ∧ unL r s 0 l = p.2 ++ unL r s p.1 (l.drop p.1)) (fun p => l.length - p.1) (0, []) ⟨Nat.zero_le _, Nat.le_refl _, rfl⟩ ?_ ?_
          · exact le_head (ms := [9]) (by repeat (first | exact Out.refl _ | exact Out.head rfl rfl | (refine Out.put ?_ rfl) | (refine Out.site ?_ rfl) | (refine Out.putn ?_) | (refine Out.headIn ?_ rfl rfl rfl) | (refine Out.called ?_ rfl rfl) | (refine Out.killS ?_ rfl))) ⟨(by first | rfl | (show Site.row 3 1 (List.map iC out ++ [iC (k : Int)]) = _; simp; done)), (by first | rfl | (show Site.row 3 1 (List.map iC out ++ [iC (k : Int)]) = _; simp; done)), trivial⟩ ⟨(by first | rfl | (show Site.row 3 1 (List.map iC out ++ [iC (k : Int)]) = _; simp; done)), trivial⟩ rfl rfl rfl rfl
          ·
            intro ⟨k, out⟩ ⟨hk, ho, hh⟩
            simp only at hk ho hh
            refine awp_seq ?_
            refine awp_seq ?_
            refine awp_region 4 mixed (by kernel_rfl) ?_
            refine rg_q (q_move (x := .d (.v _)) rfl) ?_
            first | refine rg_q (q_move (x := .d (.sl _ _)) rfl) ?_ | refine rg_q (q_move (x := .rs _) rfl) ?_ | refine rg_q (q_move (x := .d (.v _)) rfl) ?_
            first | refine rg_q (q_len isl25 rfl (by first | exact len_map _ _ | rfl)) ?_ | refine rg_q (q_len_rs isl25 rfl rfl) ?_ | refine rg_q (q_len_nil isl25 rfl) ?_
            refine rg_q (q_lss rfl rfl) ?_
            refine rg_nil ?_
            refine aops_nil ?_
            change Awp _ _ _ _ _
            first | refine awp_len (t := 35) rfl (fun hl35 => ?_) | skip
            (try simp only [List.length_map] at hl35)
            refine awp_cond rfl (fun hc12 => ?_) (fun hc12 => ?_)
            ·
              (try simp only [decide_eq_true_eq, decide_eq_false_iff_not, Bool.and_eq_true, Bool.or_eq_true, Bool.and_eq_false_iff, Bool.or_eq_false_iff, Bool.not_eq_true', Bool.not_eq_false', Bool.not_true, Bool.not_false, bif_and, bif_or, Bool.not_not, ne_eq, Decidable.not_not, not_true_eq_false, not_false_eq_true, Int.not_le, Int.not_lt] at hc12)
              have hlt : k < l.length := by omega
              obtain ⟨x, hx⟩ : ∃ x, l[k]? = some x := ⟨_, List.getElem?_eq_getElem hlt⟩
              have hd := unL_take (r := r) (s := s) hx
              obtain ⟨x1, x2⟩ := badI_at hbad hx
              have m1 := mulb (a := s) (b := r) (A := 1000) (B := 1000000) (by omega) (by omega) (by omega) (by omega)
              refine awp_skip ?_
              change Awp _ _ _ _ _
              refine awp_seq ?_
              refine awp_block ?_
              refine awp_seq ?_
              refine awp_region 12 mixed (by kernel_rfl) ?_
              first | refine rg_q (q_move (x := .d (.sl _ _)) rfl) ?_ | refine rg_q (q_move (x := .rs _) rfl) ?_ | refine rg_q (q_move (x := .d (.v _)) rfl) ?_
              refine rg_q (q_move (x := .d (.v _)) rfl) ?_
              first | refine rg_q (q_indexAddr sl25 rfl rfl (by omega) (map_at (by omega) hx)) ?_ | refine rg_q (q_indexAddr_rs sl25 rfl rfl rfl (by omega) (by omega)) ?_
              first | refine rg_q (q_load sz3 rfl rfl) ?_ | refine rg_q (q_load_ref sz3 rfl rfl rfl) ?_ | refine rg_q (q_load_tb (x := .d _) sz3 rfl rfl rfl) ?_ | refine rg_q (q_load_tb (x := .rs _) sz3 rfl rfl rfl) ?_
              refine rg_q (q_move (x := .d (.v _)) rfl) ?_
              refine rg_q (q_sub rfl rfl (In64.mk (by omega) (by omega))) ?_
              first | refine rg_q (q_call en76 (.cons rfl .nil) rfl (Size_p _ ⟨by omega, by omega⟩)) ?_ | refine rg_q (q_callF en76 (.cons (by first | exact .d _ | exact .rs rfl | exact .ref rfl | exact .nil _ | exact .tref rfl (by repeat (first | exact .nil | refine .cons (.d _ rfl) ?_ | refine .cons (.rs rfl) ?_))) .nil) rfl (Size_p _ ⟨by omega, by omega⟩) (by first | exact .v _ | exact D.Flat.tupF (by repeat first | exact trivial | refine ⟨.v _, ?_⟩) | exact D.Flat.aggF (by repeat first | exact trivial | refine ⟨.v _, ?_⟩))) ?_
              refine rg_q (q_mul rfl rfl (In64.mk (by omega) (by omega))) ?_
              refine rg_q (q_move (x := .d (.v _)) rfl) ?_
              refine rg_q (q_move (x := .d (.v _)) rfl) ?_
              refine rg_q (q_mul rfl rfl (In64.mk (by omega) (by omega))) ?_
              refine rg_q (q_gtr rfl rfl) ?_
              refine rg_nil ?_
              refine aops_nil ?_
              change Awp _ _ _ _ _
              refine awp_cond rfl (fun hc14 => ?_) (fun hc14 => ?_)
              ·
                (try simp only [decide_eq_true_eq, decide_eq_false_iff_not, Bool.and_eq_true, Bool.or_eq_true, Bool.and_eq_false_iff, Bool.or_eq_false_iff, Bool.not_eq_true', Bool.not_eq_false', Bool.not_true, Bool.not_false, bif_and, bif_or, Bool.not_not, ne_eq, Decidable.not_not, not_true_eq_false, not_false_eq_true, Int.not_le, Int.not_lt] at hc14)
                have hu : unP r s x = true := decide_eq_true hc14
                refine awp_region 3 mixed (by kernel_rfl) ?_
                first | refine rg_q (q_move (x := .d (.sl _ _)) rfl) ?_ | refine rg_q (q_move (x := .rs _) rfl) ?_ | refine rg_q (q_move (x := .d (.v _)) rfl) ?_
                refine rg_q (q_move (x := .d (.v _)) rfl) ?_
                refine rg_q (q_buildSlice sl25 zr3 rfl rfl (by decide) (.cons rfl (by first | exact .inl rfl | exact .inr ⟨_, rfl⟩) .nil) ⟨rfl, rfl, trivial⟩ rfl (by decide) rfl) ?_
                refine rg_nil ?_
                first | refine aops_append sl25 zr3 by3 rfl (by decide) rfl rfl rfl rfl (by (try simp only [List.length_map, List.length_append, List.length_cons, List.length_nil]); omega) (by (try simp only [List.length_map, List.length_append, List.length_cons, List.length_nil]); omega) rfl rfl ?_ | refine aops_appendR sl25 zr3 by3 rfl (by decide) rfl rfl rfl rfl rfl (by (try simp only [List.length_map, List.length_append, List.length_cons, List.length_nil]); omega) (by (try simp only [List.length_map, List.length_append, List.length_cons, List.length_nil]); omega) rfl rfl ?_
                first | refine aops_q rfl (q_assign (x := .d (.sl _ _)) rfl) ?_ | refine aops_q rfl (q_assign (x := .rs _) rfl) ?_ | refine aops_q rfl (q_assign (x := .d (.v _)) rfl) ?_
                refine aops_nil ?_
                change Awp _ _ _ _ _
                refine awp_region 3 mixed (by kernel_rfl) ?_
                refine rg_q (q_move (x := .d (.v _)) rfl) ?_
                refine rg_q (q_add rfl rfl (In64.mk (by omega) (by omega))) ?_
                refine rg_q (q_assign (x := .d (.v _)) rfl) ?_
                refine rg_nil ?_
                refine aops_nil ?_
                refine ⟨(k + 1, out ++ [(k : Int)]), ⟨by simp only; omega, by simp only [List.length_append, List.length_singleton]; omega, by rw [hh, hd, if_pos hu]; simp⟩, by simp only; omega, ?_⟩
                exact le_head (ms := [9]) (by repeat (first | exact Out.refl _ | exact Out.head rfl rfl | (refine Out.put ?_ rfl) | (refine Out.site ?_ rfl) | (refine Out.putn ?_) | (refine Out.headIn ?_ rfl rfl rfl) | (refine Out.called ?_ rfl rfl) | (refine Out.killS ?_ rfl))) ⟨(by first | rfl | (show Site.row 3 1 (List.map iC out ++ [iC (k : Int)]) = _; simp; done)), (by first | rfl | (show Site.row 3 1 (List.map iC out ++ [iC (k : Int)]) = _; simp; done)), trivial⟩ ⟨(by first | rfl | (show Site.row 3 1 (List.map iC out ++ [iC (k : Int)]) = _; simp; done)), trivial⟩ rfl rfl rfl rfl
              ·
                (try simp only [decide_eq_true_eq, decide_eq_false_iff_not, Bool.and_eq_true, Bool.or_eq_true, Bool.and_eq_false_iff, Bool.or_eq_false_iff, Bool.not_eq_true', Bool.not_eq_false', Bool.not_true, Bool.not_false, bif_and, bif_or, Bool.not_not, ne_eq, Decidable.not_not, not_true_eq_false, not_false_eq_true, Int.not_le, Int.not_lt] at hc14)
                have hu : ¬ unP r s x = true := by simp [unP]; omega
                refine awp_skip ?_
                change Awp _ _ _ _ _
                refine awp_region 3 mixed (by kernel_rfl) ?_
                refine rg_q (q_move (x := .d (.v _)) rfl) ?_
                refine rg_q (q_add rfl rfl (In64.mk (by omega) (by omega))) ?_
                refine rg_q (q_assign (x := .d (.v _)) rfl) ?_
                refine rg_nil ?_
                refine aops_nil ?_
                refine ⟨(k + 1, out), ⟨by simp only; omega, by simp only; omega, by rw [hh, hd, if_neg hu]⟩, by simp only; omega, ?_⟩
                exact le_head (ms := [9]) (by repeat (first | exact Out.refl _ | exact Out.head rfl rfl | (refine Out.put ?_ rfl) | (refine Out.site ?_ rfl) | (refine Out.putn ?_) | (refine Out.headIn ?_ rfl rfl rfl) | (refine Out.called ?_ rfl rfl) | (refine Out.killS ?_ rfl))) ⟨(by first | rfl | (show Site.row 3 1 (List.map iC out ++ [iC (k : Int)]) = _; simp; done)), (by first | rfl | (show Site.row 3 1 (List.map iC out ++ [iC (k : Int)]) = _; simp; done)), trivial⟩ ⟨(by first | rfl | (show Site.row 3 1 (List.map iC out ++ [iC (k : Int)]) = _; simp; done)), trivial⟩ rfl rfl rfl rfl
            ·
              (try simp only [decide_eq_true_eq, decide_eq_false_iff_not, Bool.and_eq_true, Bool.or_eq_true, Bool.and_eq_false_iff, Bool.or_eq_false_iff, Bool.not_eq_true', Bool.not_eq_false', Bool.not_true, Bool.not_false, bif_and, bif_or, Bool.not_not, ne_eq, Decidable.not_not, not_true_eq_false, not_false_eq_true, Int.not_le, Int.not_lt] at hc12)
              refine awp_exit ?_
              change Awp _ _ _ _ _
              refine awp_seq ?_
              refine awp_region 3 mixed (by kernel_rfl) ?_
              first | refine rg_q (q_move (x := .d (.sl _ _)) rfl) ?_ | refine rg_q (q_move (x := .rs _) rfl) ?_ | refine rg_q (q_move (x := .d (.v _)) rfl) ?_
              first | refine rg_q (q_assign (x := .d (.sl _ _)) rfl) ?_ | refine rg_q (q_assign (x := .rs _) rfl) ?_ | refine rg_q (q_assign (x := .d (.v _)) rfl) ?_
              refine rg_q (q_assign (x := .d (.v _)) rfl) ?_
              refine rg_nil ?_
              refine aops_nil ?_
              change Awp _ _ _ _ _
              refine awp_ret ?_
              refine ⟨_, (.cons (.tmp (by first | exact .nil _ | exact .d _ | exact .rs rfl)) (.cons (.tmp (by first | exact .nil _ | exact .d _ | exact .rs rfl)) .nil)), ?_⟩
              rw [hz, hh, List.drop_of_length_le (by omega)]; simp [unL, retD]
set_option maxRecDepth 100000 in
theorem tuneUneven_p (l : List Int) (r s : Int) : PC Try.prog 9 [.sl 1 (l.map iC), .v (.int .i64 (r)), .v (.int .i64 (s))] (.v (.bool true)) := by
  have hu := Uneven_p l r s
  have hr := rUneven_p l r s
  generalize unevS l r s = E at hu hr
  obtain ⟨out, e⟩ := E
  simp only at hu hr
  refine pc_of_awp Try.func9 rfl Try.ntmps9 (rs := [.tmp 6]) Try.results9 (by simp) fun w0 => ?_
  refine awp_seq ?_
  refine awp_region 1 mixed (by kernel_rfl) ?_
  refine rg_q (q_assign (x := .d (.v _)) rfl) ?_
  refine rg_nil ?_
  refine aops_nil ?_
  change Awp _ _ _ _ _
  refine awp_seq ?_
  refine awp_seq ?_
  refine awp_region 2 mixed (by kernel_rfl) ?_
  first | refine rg_q (q_call en16 .nil rfl (awake_p)) ?_ | refine rg_q (q_callF en16 .nil rfl (awake_p) (by first | exact .v _ | exact D.Flat.tupF (by repeat first | exact trivial | refine ⟨.v _, ?_⟩) | exact D.Flat.aggF (by repeat first | exact trivial | refine ⟨.v _, ?_⟩))) ?_
  refine rg_q (q_not rfl) ?_
  refine rg_nil ?_
  refine aops_nil ?_
  change Awp _ _ _ _ _
  refine awp_cond rfl (fun hc1 => ?_) (fun hc1 => ?_)
  ·
    exfalso; (try simp only [decide_eq_true_eq, decide_eq_false_iff_not, Bool.and_eq_true, Bool.or_eq_true, Bool.and_eq_false_iff, Bool.or_eq_false_iff, Bool.not_eq_true', Bool.not_eq_false', Bool.not_true, Bool.not_false, bif_and, bif_or, Bool.not_not, ne_eq, Decidable.not_not, not_true_eq_false, not_false_eq_true, Int.not_le, Int.not_lt] at hc1); first | omega | simp_all
  ·
    (try simp only [decide_eq_true_eq, decide_eq_false_iff_not, Bool.and_eq_true, Bool.or_eq_true, Bool.and_eq_false_iff, Bool.or_eq_false_iff, Bool.not_eq_true', Bool.not_eq_false', Bool.not_true, Bool.not_false, bif_and, bif_or, Bool.not_not, ne_eq, Decidable.not_not, not_true_eq_false, not_false_eq_true, Int.not_le, Int.not_lt] at hc1)
    refine awp_skip ?_
    change Awp _ _ _ _ _
    refine awp_seq ?_
    refine awp_seq ?_
    refine awp_region 3 mixed (by kernel_rfl) ?_
    first | refine rg_q (q_move (x := .d (.sl _ _)) rfl) ?_ | refine rg_q (q_move (x := .rs _) rfl) ?_ | refine rg_q (q_move (x := .d (.v _)) rfl) ?_
    first | refine rg_q (q_len isl25 rfl (by first | exact len_map _ _ | rfl)) ?_ | refine rg_q (q_len_rs isl25 rfl rfl) ?_ | refine rg_q (q_len_nil isl25 rfl) ?_
    refine rg_q (q_gtr rfl rfl) ?_
    refine rg_nil ?_
    refine aops_nil ?_
    change Awp _ _ _ _ _
    first | refine awp_len (t := 13) rfl (fun hl13 => ?_) | skip
    (try simp only [List.length_map] at hl13)
    refine awp_cond rfl (fun hc3 => ?_) (fun hc3 => ?_)
    ·
      (try simp only [decide_eq_true_eq, decide_eq_false_iff_not, Bool.and_eq_true, Bool.or_eq_true, Bool.and_eq_false_iff, Bool.or_eq_false_iff, Bool.not_eq_true', Bool.not_eq_false', Bool.not_true, Bool.not_false, bif_and, bif_or, Bool.not_not, ne_eq, Decidable.not_not, not_true_eq_false, not_false_eq_true, Int.not_le, Int.not_lt] at hc3)
      refine awp_seq ?_
      refine awp_region 1 mixed (by kernel_rfl) ?_
      refine rg_q (q_assign (x := .d (.v _)) rfl) ?_
      refine rg_nil ?_
      refine aops_nil ?_
      change Awp _ _ _ _ _
      refine awp_ret ?_
      refine ⟨_, (.cons (.tmp (by first | exact .d _ | exact .rs rfl | exact .ref rfl | exact .tref rfl (.cons (.d _ rfl) (.cons (.rs rfl) .nil)))) .nil), ?_⟩
      simp [retD]
    ·
      (try simp only [decide_eq_true_eq, decide_eq_false_iff_not, Bool.and_eq_true, Bool.or_eq_true, Bool.and_eq_false_iff, Bool.or_eq_false_iff, Bool.not_eq_true', Bool.not_eq_false', Bool.not_true, Bool.not_false, bif_and, bif_or, Bool.not_not, ne_eq, Decidable.not_not, not_true_eq_false, not_false_eq_true, Int.not_le, Int.not_lt] at hc3)
      have hl : l.length ≤ 20 := by omega
      refine awp_skip ?_
      change Awp _ _ _ _ _
      refine awp_seq ?_
      refine awp_region 10 mixed (by kernel_rfl) ?_
      first | refine rg_q (q_move (x := .d (.sl _ _)) rfl) ?_ | refine rg_q (q_move (x := .rs _) rfl) ?_ | refine rg_q (q_move (x := .d (.v _)) rfl) ?_
      first | refine rg_q (q_call en46 (.cons rfl .nil) rfl (copyInts_p _ (by omega))) ?_ | refine rg_q (q_callF en46 (.cons (by first | exact .d _ | exact .rs rfl | exact .ref rfl | exact .nil _ | exact .tref rfl (by repeat (first | exact .nil | refine .cons (.d _ rfl) ?_ | refine .cons (.rs rfl) ?_))) .nil) rfl (copyInts_p _ (by omega)) (by first | exact .v _ | exact D.Flat.tupF (by repeat first | exact trivial | refine ⟨.v _, ?_⟩) | exact D.Flat.aggF (by repeat first | exact trivial | refine ⟨.v _, ?_⟩))) ?_
      refine rg_q (q_move (x := .d (.v _)) rfl) ?_
      refine rg_q (q_move (x := .d (.v _)) rfl) ?_
      first | refine rg_q (q_call en45 (.cons rfl (.cons rfl (.cons rfl .nil))) rfl (hu)) ?_ | refine rg_q (q_callF en45 (.cons (by first | exact .d _ | exact .rs rfl | exact .ref rfl | exact .nil _ | exact .tref rfl (by repeat (first | exact .nil | refine .cons (.d _ rfl) ?_ | refine .cons (.rs rfl) ?_))) (.cons (by first | exact .d _ | exact .rs rfl | exact .ref rfl | exact .nil _ | exact .tref rfl (by repeat (first | exact .nil | refine .cons (.d _ rfl) ?_ | refine .cons (.rs rfl) ?_))) (.cons (by first | exact .d _ | exact .rs rfl | exact .ref rfl | exact .nil _ | exact .tref rfl (by repeat (first | exact .nil | refine .cons (.d _ rfl) ?_ | refine .cons (.rs rfl) ?_))) .nil))) rfl (hu) (by first | exact .v _ | exact D.Flat.tupF (by repeat first | exact trivial | refine ⟨.v _, ?_⟩) | exact D.Flat.aggF (by repeat first | exact trivial | refine ⟨.v _, ?_⟩))) ?_
      refine rg_q (q_move (x := .d (.tup _)) rfl) ?_
      refine rg_q (q_extract rfl rfl) ?_
      refine rg_q (q_extract rfl rfl) ?_
      first | refine rg_q (q_assign (x := .d (.sl _ _)) rfl) ?_ | refine rg_q (q_assign (x := .rs _) rfl) ?_ | refine rg_q (q_assign (x := .d (.v _)) rfl) ?_
      refine rg_q (q_assign (x := .d (.v _)) rfl) ?_
      refine rg_nil ?_
      refine aops_nil ?_
      change Awp _ _ _ _ _
      refine awp_seq ?_
      refine awp_region 9 mixed (by kernel_rfl) ?_
      first | refine rg_q (q_move (x := .d (.sl _ _)) rfl) ?_ | refine rg_q (q_move (x := .rs _) rfl) ?_ | refine rg_q (q_move (x := .d (.v _)) rfl) ?_
      refine rg_q (q_move (x := .d (.v _)) rfl) ?_
      refine rg_q (q_move (x := .d (.v _)) rfl) ?_
      first | refine rg_q (q_call en47 (.cons rfl (.cons rfl (.cons rfl .nil))) rfl (hr)) ?_ | refine rg_q (q_callF en47 (.cons (by first | exact .d _ | exact .rs rfl | exact .ref rfl | exact .nil _ | exact .tref rfl (by repeat (first | exact .nil | refine .cons (.d _ rfl) ?_ | refine .cons (.rs rfl) ?_))) (.cons (by first | exact .d _ | exact .rs rfl | exact .ref rfl | exact .nil _ | exact .tref rfl (by repeat (first | exact .nil | refine .cons (.d _ rfl) ?_ | refine .cons (.rs rfl) ?_))) (.cons (by first | exact .d _ | exact .rs rfl | exact .ref rfl | exact .nil _ | exact .tref rfl (by repeat (first | exact .nil | refine .cons (.d _ rfl) ?_ | refine .cons (.rs rfl) ?_))) .nil))) rfl (hr) (by first | exact .v _ | exact D.Flat.tupF (by repeat first | exact trivial | refine ⟨.v _, ?_⟩) | exact D.Flat.aggF (by repeat first | exact trivial | refine ⟨.v _, ?_⟩))) ?_
      refine rg_q (q_move (x := .d (.tup _)) rfl) ?_
      refine rg_q (q_extract rfl rfl) ?_
      refine rg_q (q_extract rfl rfl) ?_
      first | refine rg_q (q_assign (x := .d (.sl _ _)) rfl) ?_ | refine rg_q (q_assign (x := .rs _) rfl) ?_ | refine rg_q (q_assign (x := .d (.v _)) rfl) ?_
      refine rg_q (q_assign (x := .d (.v _)) rfl) ?_
      refine rg_nil ?_
      refine aops_nil ?_
      change Awp _ _ _ _ _
      refine awp_seq ?_
      refine awp_region 9 mixed (by kernel_rfl) ?_
      refine rg_q (q_move (x := .d (.v _)) rfl) ?_
      refine rg_q (q_move (x := .d (.v _)) rfl) ?_
      refine rg_q (q_eql rfl rfl) ?_
      refine rg_q (q_move (x := .d (.v _)) rfl) ?_
      first | refine rg_g rfl rfl (fun hG => (q_move (x := .d (.sl _ _)) rfl)) ?_ | refine rg_g rfl rfl (fun hG => (q_move (x := .rs _) rfl)) ?_ | refine rg_g rfl rfl (fun hG => (q_move (x := .d (.v _)) rfl)) ?_
      first | refine rg_g rfl rfl (fun hG => (q_move (x := .d (.sl _ _)) rfl)) ?_ | refine rg_g rfl rfl (fun hG => (q_move (x := .rs _) rfl)) ?_ | refine rg_g rfl rfl (fun hG => (q_move (x := .d (.v _)) rfl)) ?_
      first | refine rg_g rfl rfl (fun hG => (q_call en22 (.cons rfl (.cons rfl .nil)) rfl (ints_p _ _))) ?_ | refine rg_g rfl rfl (fun hG => (q_callF en22 (.cons (by first | exact .d _ | exact .rs rfl | exact .ref rfl | exact .nil _ | exact .tref rfl (by repeat (first | exact .nil | refine .cons (.d _ rfl) ?_ | refine .cons (.rs rfl) ?_))) (.cons (by first | exact .d _ | exact .rs rfl | exact .ref rfl | exact .nil _ | exact .tref rfl (by repeat (first | exact .nil | refine .cons (.d _ rfl) ?_ | refine .cons (.rs rfl) ?_))) .nil)) rfl (ints_p _ _) (by first | exact .v _ | exact D.Flat.tupF (by repeat first | exact trivial | refine ⟨.v _, ?_⟩) | exact D.Flat.aggF (by repeat first | exact trivial | refine ⟨.v _, ?_⟩)))) ?_
      first | refine rg_pick rfl rfl rfl rfl rfl rfl ?_ | refine rg_q (q_pick rfl rfl rfl) ?_
      refine rg_q (q_assign (x := .d (.v _)) rfl) ?_
      refine rg_nil ?_
      refine aops_nil ?_
      change Awp _ _ _ _ _
      refine awp_ret ?_
      refine ⟨_, (.cons (.tmp (by first | exact .d _ | exact .rs rfl | exact .ref rfl | exact .tref rfl (.cons (.d _ rfl) (.cons (.rs rfl) .nil)))) .nil), ?_⟩
      simp [retD]
end Go.Proofs.Ytgdcidbpadhkpaa.Am.M
