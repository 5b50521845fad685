/- Contracts over the abstract machine: names and steps (package tune). Conditions: none. -/
import Derived.Test.YtepaabbfindaeaaGreatDoorC3
set_option linter.unusedVariables false
set_option linter.unusedSimpArgs false
namespace Go.Proofs.YtepaabbfindaeaaGreatDoor.Am.M
open Go

def letterB (c : Int) : Bool := (decide (97 ≤ c) && decide (c ≤ 122)) || (decide (65 ≤ c) && decide (c ≤ 90))
def badCh (i c : Int) : Bool := !letterB c && (decide (i = 0) || (decide (c ≠ 45) && (decide (c < 48) || decide (57 < c))))
def nmGo : Nat → List UInt8 → Bool
  | _, [] => true
  | i, c :: cs => if badCh (i : Int) c.toNat = true then false else nmGo (i + 1) cs
def isNm (s : ByteArray) : Bool := nmGo 0 s.data.toList && (decide (s ≠ ⟨#[]⟩) && decide ((s.size : Int) ≤ 12))
abbrev SzOk (s : ByteArray) : Prop := s.size ≤ 4611686018427387903
set_option maxRecDepth 100000 in
theorem isName_p (s : ByteArray) (hs : SzOk s) : PC Tryz.prog 70 [.v (.string (s))] (.v (.bool (isNm s))) := by
  have hlen : s.data.toList.length = s.size := by simp
  have hnm : isNm s = (nmGo 0 s.data.toList && (decide (s ≠ ⟨#[]⟩) && decide ((s.size : Int) ≤ 12))) := rfl
  refine pc_of_awp Tryz.func70 rfl Tryz.ntmps70 (rs := [.tmp 2]) Tryz.results70 (by simp) fun w0 => ?_
  refine awp_seq ?_
  refine awp_region 1 mixed (by kernel_rfl) ?_
  refine rg_q (q_assign (x := .d (.v _)) rfl) ?_
  refine rg_nil ?_
  refine aops_nil ?_
  change Awp _ _ _ _ _
  refine awp_seq ?_
  refine awp_seq ?_
  refine awp_region 4 mixed (by kernel_rfl) ?_
  refine rg_q (q_move (x := .d (.v _)) rfl) ?_
  refine rg_q (q_bytes str9 sl93 int5 (by assumption) rfl) ?_
  first | refine rg_q (q_len isl93 rfl (by first | exact len_map _ _ | rfl)) ?_ | refine rg_q (q_len_rs isl93 rfl rfl) ?_ | refine rg_q (q_len_nil isl93 rfl) ?_
  refine rg_q (q_move (x := .d (.v _)) rfl) ?_
  refine rg_nil ?_
  refine aops_nil ?_
  change Awp _ _ _ _ _
  first | refine awp_len (t := 7) rfl (fun hl7 => ?_) | skip
  (try simp only [List.length_map] at hl7)
  refine awp_block ?_
  refine awp_loopH [2, 3, 4, 5, 9, 10, 11, 12, 13, 14, 15, 16, 17, 18, 19, 20, 21, 22, 23, 24, 25, 26, 27, 28, 29, 30, 31, 32, 33, 34, 35, 36, 37, 38, 39, 40, 41, 42, 43, 44, 45, 46] [] (α := Nat) (fun k => [(9, T.i (k : Int))]) (fun k => []) (fun k => k ≤ s.data.toList.length ∧ nmGo 0 s.data.toList = nmGo k (s.data.toList.drop k)) (fun k => s.data.toList.length - k) 0 ⟨Nat.zero_le _, rfl⟩ ?_ ?_
  · exact le_head (ms := []) (by repeat (first | exact Out.refl _ | exact Out.head rfl rfl | (refine Out.put ?_ rfl) | (refine Out.site ?_ rfl) | (refine Out.putn ?_) | (refine Out.headIn ?_ rfl rfl rfl) | (refine Out.called ?_ rfl rfl))) ⟨(by first | rfl | (simp; done)), trivial⟩ trivial rfl rfl rfl rfl
  ·
    intro k ⟨hk, hf⟩
    refine awp_seq ?_
    refine awp_region 1 mixed (by kernel_rfl) ?_
    refine rg_q (q_lss rfl rfl) ?_
    refine rg_nil ?_
    refine aops_nil ?_
    change Awp _ _ _ _ _
    refine awp_seq ?_
    refine awp_cond rfl (fun hc2 => ?_) (fun hc2 => ?_)
    ·
      (try simp only [decide_eq_true_eq, decide_eq_false_iff_not, Bool.and_eq_true, Bool.or_eq_true, Bool.and_eq_false_iff, Bool.or_eq_false_iff, Bool.not_eq_true', Bool.not_eq_false', Bool.not_true, Bool.not_false, bif_and, bif_or, Bool.not_not, ne_eq, Decidable.not_not, not_true_eq_false, not_false_eq_true, Int.not_le, Int.not_lt] at hc2)
      have hlt : k < s.data.toList.length := by omega
      have hx := List.getElem?_eq_getElem hlt
      have hd : nmGo k (s.data.toList.drop k) = if badCh (k : Int) (s.data.toList[k]).toNat = true then false else nmGo (k + 1) (s.data.toList.drop (k + 1)) := by rw [List.drop_eq_getElem_cons hlt]; rfl
      generalize s.data.toList[k] = c at *
      refine awp_skip ?_
      change Awp _ _ _ _ _
      refine awp_seq ?_
      refine awp_block ?_
      refine awp_seq ?_
      refine awp_region 5 mixed (by kernel_rfl) ?_
      refine rg_q (q_move (x := .d (.v _)) rfl) ?_
      first | refine rg_q (q_indexAddr sl93 rfl rfl (by omega) (map_at (by omega) hx)) ?_ | refine rg_q (q_indexAddr_rs sl93 rfl rfl rfl (by omega) (by omega)) ?_
      first | refine rg_q (q_load sz5 rfl rfl) ?_ | refine rg_q (q_load_ref sz5 rfl rfl rfl) ?_ | refine rg_q (q_load_tb (x := .d _) sz5 rfl rfl rfl) ?_ | refine rg_q (q_load_tb (x := .rs _) sz5 rfl rfl rfl) ?_
      refine rg_q (q_assign (x := .d (.v _)) rfl) ?_
      refine rg_q (q_assign (x := .d (.v _)) rfl) ?_
      refine rg_nil ?_
      refine aops_nil ?_
      change Awp _ _ _ _ _
      refine awp_seq ?_
      refine awp_region 15 mixed (by kernel_rfl) ?_
      refine rg_q (q_move (x := .d (.v _)) rfl) ?_
      refine rg_q (q_geq rfl rfl) ?_
      refine rg_q (q_move (x := .d (.v _)) rfl) ?_
      refine rg_g rfl rfl (fun hG => (q_move (x := .d (.v _)) rfl)) ?_
      refine rg_g rfl rfl (fun hG => (q_leq rfl rfl)) ?_
      first | refine rg_pick rfl rfl rfl rfl rfl rfl ?_ | refine rg_q (q_pick rfl rfl rfl) ?_
      refine rg_q (q_move (x := .d (.v _)) rfl) ?_
      refine rg_g rfl rfl (fun hG => (q_move (x := .d (.v _)) rfl)) ?_
      refine rg_g rfl rfl (fun hG => (q_geq rfl rfl)) ?_
      refine rg_g rfl rfl (fun hG => (q_move (x := .d (.v _)) rfl)) ?_
      refine rg_g rfl rfl (fun hG => (q_move (x := .d (.v _)) rfl)) ?_
      refine rg_g rfl rfl (fun hG => (q_leq rfl rfl)) ?_
      refine rg_pickg rfl rfl rfl rfl rfl rfl rfl rfl ?_
      first | refine rg_pick rfl rfl rfl rfl rfl rfl ?_ | refine rg_q (q_pick rfl rfl rfl) ?_
      refine rg_q (q_assign (x := .d (.v _)) rfl) ?_
      refine rg_nil ?_
      refine aops_nil ?_
      change Awp _ _ _ _ _
      refine awp_seq ?_
      refine awp_region 18 mixed (by kernel_rfl) ?_
      refine rg_q (q_move (x := .d (.v _)) rfl) ?_
      refine rg_q (q_not rfl) ?_
      refine rg_q (q_move (x := .d (.v _)) rfl) ?_
      refine rg_g rfl rfl (fun hG => (q_move (x := .d (.v _)) rfl)) ?_
      refine rg_g rfl rfl (fun hG => (q_eql rfl rfl)) ?_
      refine rg_g rfl rfl (fun hG => (q_move (x := .d (.v _)) rfl)) ?_
      refine rg_g rfl rfl (fun hG => (q_move (x := .d (.v _)) rfl)) ?_
      refine rg_g rfl rfl (fun hG => (q_neq rfl rfl)) ?_
      refine rg_g rfl rfl (fun hG => (q_move (x := .d (.v _)) rfl)) ?_
      refine rg_g rfl rfl (fun hG => (q_move (x := .d (.v _)) rfl)) ?_
      refine rg_g rfl rfl (fun hG => (q_lss rfl rfl)) ?_
      refine rg_g rfl rfl (fun hG => (q_move (x := .d (.v _)) rfl)) ?_
      refine rg_g rfl rfl (fun hG => (q_move (x := .d (.v _)) rfl)) ?_
      refine rg_g rfl rfl (fun hG => (q_gtr rfl rfl)) ?_
      refine rg_pickg rfl rfl rfl rfl rfl rfl rfl rfl ?_
      refine rg_pickg rfl rfl rfl rfl rfl rfl rfl rfl ?_
      refine rg_pickg rfl rfl rfl rfl rfl rfl rfl rfl ?_
      first | refine rg_pick rfl rfl rfl rfl rfl rfl ?_ | refine rg_q (q_pick rfl rfl rfl) ?_
      refine rg_nil ?_
      refine aops_nil ?_
      change Awp _ _ _ _ _
      refine awp_cond rfl (fun hc5 => ?_) (fun hc5 => ?_)
      ·
        have hb : badCh (k : Int) c.toNat = true := by unfold badCh letterB; simpa [bif_and, bif_or] using hc5
        refine awp_seq ?_
        refine awp_region 1 mixed (by kernel_rfl) ?_
        refine rg_q (q_assign (x := .d (.v _)) rfl) ?_
        refine rg_nil ?_
        refine aops_nil ?_
        change Awp _ _ _ _ _
        refine awp_ret ?_
        refine ⟨_, (.cons (.tmp (by first | exact .d _ | exact .rs rfl | exact .ref rfl | exact .tref rfl (.cons (.d _ rfl) (.cons (.rs rfl) .nil)))) .nil), ?_⟩
        rw [hnm, hf, hd, if_pos hb]; rfl
      ·
        have hb : ¬ badCh (k : Int) c.toNat = true := by unfold badCh letterB; simpa [bif_and, bif_or] using hc5
        refine awp_skip ?_
        change Awp _ _ _ _ _
        refine awp_region 2 mixed (by kernel_rfl) ?_
        refine rg_q (q_add rfl rfl (In64.mk (by omega) (by omega))) ?_
        refine rg_q (q_move (x := .d (.v _)) rfl) ?_
        refine rg_nil ?_
        refine aops_nil ?_
        refine ⟨k + 1, ⟨by omega, by rw [hf, hd, if_neg hb]⟩, by omega, ?_⟩
        exact le_head (ms := []) (by repeat (first | exact Out.refl _ | exact Out.head rfl rfl | (refine Out.put ?_ rfl) | (refine Out.site ?_ rfl) | (refine Out.putn ?_) | (refine Out.headIn ?_ rfl rfl rfl) | (refine Out.called ?_ rfl rfl))) ⟨(by first | rfl | (simp; done)), trivial⟩ trivial rfl rfl rfl rfl
    ·
      (try simp only [decide_eq_true_eq, decide_eq_false_iff_not, Bool.and_eq_true, Bool.or_eq_true, Bool.and_eq_false_iff, Bool.or_eq_false_iff, Bool.not_eq_true', Bool.not_eq_false', Bool.not_true, Bool.not_false, bif_and, bif_or, Bool.not_not, ne_eq, Decidable.not_not, not_true_eq_false, not_false_eq_true, Int.not_le, Int.not_lt] at hc2)
      refine awp_exit ?_
      change Awp _ _ _ _ _
      refine awp_seq ?_
      refine awp_region 8 mixed (by kernel_rfl) ?_
      refine rg_q (q_move (x := .d (.v _)) rfl) ?_
      refine rg_q (q_neqs rfl rfl) ?_
      refine rg_q (q_move (x := .d (.v _)) rfl) ?_
      refine rg_g rfl rfl (fun hG => (q_move (x := .d (.v _)) rfl)) ?_
      refine rg_g rfl rfl (fun hG => (q_len_str str9 rfl)) ?_
      refine rg_g rfl rfl (fun hG => (q_leq rfl rfl)) ?_
      first | refine rg_pick rfl rfl rfl rfl rfl rfl ?_ | refine rg_q (q_pick rfl rfl rfl) ?_
      refine rg_q (q_assign (x := .d (.v _)) rfl) ?_
      refine rg_nil ?_
      refine aops_nil ?_
      change Awp _ _ _ _ _
      refine awp_ret ?_
      refine ⟨_, (.cons (.tmp (by first | exact .d _ | exact .rs rfl | exact .ref rfl | exact .tref rfl (.cons (.d _ rfl) (.cons (.rs rfl) .nil)))) .nil), ?_⟩
      rw [hnm, hf, List.drop_of_length_le (by omega)]; simp only [bif_and]; rfl

structure Stp where
  nm : ByteArray
  lasts : Int
  warm : Int
  needs : List Int
def stepC (s : Stp) : List D := [.v (.string s.nm), .v (.int .i64 s.lasts), .v (.int .i64 s.warm), .sl 1 (s.needs.map iC)]
set_option maxRecDepth 100000 in
theorem checkSteps1_p (t s : Stp) : PC Tryz.prog 72 [.agg (stepC t), .pt (stepC s) 0] (.v (.bool (decide (t.nm = s.nm)))) := by
  refine pc_of_awp Tryz.func72 rfl Tryz.ntmps72 (rs := [.tmp 3]) Tryz.results72 (by simp) fun w0 => ?_
  refine awp_seq ?_
  refine awp_region 2 mixed (by kernel_rfl) ?_
  refine rg_q (q_box rfl (by first | exact .inl rfl | exact .inr ⟨_, rfl⟩)) ?_
  refine rg_q (q_assign (x := .d (.v _)) rfl) ?_
  refine rg_nil ?_
  refine aops_nil ?_
  change Awp _ _ _ _ _
  refine awp_seq ?_
  refine awp_region 6 mixed (by kernel_rfl) ?_
  first | refine rg_q (q_fieldAddr fld87_0 rfl) ?_ | refine rg_q (q_fieldAddr_ref fld87_0 rfl) ?_
  first | refine rg_q (q_load sz9 rfl rfl) ?_ | refine rg_q (q_load_ref sz9 rfl rfl rfl) ?_ | refine rg_q (q_load_tb (x := .d _) sz9 rfl rfl rfl) ?_ | refine rg_q (q_load_tb (x := .rs _) sz9 rfl rfl rfl) ?_
  first | refine rg_q (q_fieldAddr fld87_0 rfl) ?_ | refine rg_q (q_fieldAddr_ref fld87_0 rfl) ?_
  first | refine rg_q (q_load sz9 rfl rfl) ?_ | refine rg_q (q_load_ref sz9 rfl rfl rfl) ?_ | refine rg_q (q_load_tb (x := .d _) sz9 rfl rfl rfl) ?_ | refine rg_q (q_load_tb (x := .rs _) sz9 rfl rfl rfl) ?_
  refine rg_q (q_eqls rfl rfl) ?_
  refine rg_q (q_assign (x := .d (.v _)) rfl) ?_
  refine rg_nil ?_
  refine aops_nil ?_
  change Awp _ _ _ _ _
  refine awp_ret ?_
  refine ⟨_, (.cons (.tmp (by first | exact .d _ | exact .rs rfl | exact .ref rfl | exact .tref rfl (.cons (.d _ rfl) (.cons (.rs rfl) .nil)))) .nil), ?_⟩
  rfl
set_option maxRecDepth 100000 in
theorem indexStep_p {α : Type} (C : α → List D) (f : α → Bool) (g : FuncId) (cap : List D) (hen : enB Tryz.prog g = true) (l : List α) (hC : ∀ a, (C a).length = 4) (hf : ∀ a ∈ l, PC Tryz.prog g (.agg (C a) :: cap) (.v (.bool (f a)))) : PC Tryz.prog 85 [.sl 4 (l.map C), .fn (.func g) cap] (.v (.int .i64 (idxOf f 0 l))) := by
  refine pc_of_awp Tryz.func85 rfl Tryz.ntmps85 (rs := [.tmp 4]) Tryz.results85 (by simp) fun w0 => ?_
  refine awp_seq ?_
  refine awp_region 1 mixed (by kernel_rfl) ?_
  refine rg_q (q_assign (x := .d (.v _)) rfl) ?_
  refine rg_nil ?_
  refine aops_nil ?_
  change Awp _ _ _ _ _
  refine awp_seq ?_
  refine awp_seq ?_
  refine awp_region 3 mixed (by kernel_rfl) ?_
  first | refine rg_q (q_move (x := .d (.sl _ _)) rfl) ?_ | refine rg_q (q_move (x := .rs _) rfl) ?_ | refine rg_q (q_move (x := .d (.v _)) rfl) ?_
  first | refine rg_q (q_len isl46 rfl (by first | exact len_map _ _ | rfl)) ?_ | refine rg_q (q_len_rs isl46 rfl rfl) ?_ | refine rg_q (q_len_nil isl46 rfl) ?_
  refine rg_q (q_move (x := .d (.v _)) rfl) ?_
  refine rg_nil ?_
  refine aops_nil ?_
  change Awp _ _ _ _ _
  first | refine awp_len (t := 6) rfl (fun hl6 => ?_) | skip
  (try simp only [List.length_map] at hl6)
  refine awp_block ?_
  refine awp_loopH [4, 5, 8, 9, 10, 11, 12, 13, 14, 15, 16, 17, 18] [] (α := Nat) (fun k => [(8, T.i (k : Int))]) (fun k => []) (fun k => k ≤ l.length ∧ idxOf f 0 l = idxOf f k (l.drop k)) (fun k => l.length - k) 0 ⟨Nat.zero_le _, rfl⟩ ?_ ?_
  · exact le_head (ms := []) (by repeat (first | exact Out.refl _ | exact Out.head rfl rfl | (refine Out.put ?_ rfl) | (refine Out.site ?_ rfl) | (refine Out.putn ?_) | (refine Out.headIn ?_ rfl rfl rfl) | (refine Out.called ?_ rfl rfl))) ⟨(by first | rfl | (simp; done)), trivial⟩ trivial rfl rfl rfl rfl
  ·
    intro k ⟨hk, hh⟩
    refine awp_seq ?_
    refine awp_region 1 mixed (by kernel_rfl) ?_
    refine rg_q (q_lss rfl rfl) ?_
    refine rg_nil ?_
    refine aops_nil ?_
    change Awp _ _ _ _ _
    refine awp_seq ?_
    refine awp_cond rfl (fun hc2 => ?_) (fun hc2 => ?_)
    ·
      (try simp only [decide_eq_true_eq, decide_eq_false_iff_not, Bool.and_eq_true, Bool.or_eq_true, Bool.and_eq_false_iff, Bool.or_eq_false_iff, Bool.not_eq_true', Bool.not_eq_false', Bool.not_true, Bool.not_false, bif_and, bif_or, Bool.not_not, ne_eq, Decidable.not_not, not_true_eq_false, not_false_eq_true, Int.not_le, Int.not_lt] at hc2)
      have hlt : k < l.length := by omega
      have hx := List.getElem?_eq_getElem hlt
      have hd : idxOf f k (l.drop k) = if f l[k] = true then (k : Int) else idxOf f (k + 1) (l.drop (k + 1)) := by rw [List.drop_eq_getElem_cons hlt]; rfl
      have hfx := hf l[k] (List.getElem_mem hlt)
      have hCx := hC l[k]
      generalize l[k] = x at *
      have hds : ((C x).drop 0).take 4 = C x := by rw [List.drop_zero]; exact List.take_of_length_le (by omega)
      refine awp_skip ?_
      change Awp _ _ _ _ _
      refine awp_seq ?_
      refine awp_block ?_
      refine awp_seq ?_
      refine awp_region 2 mixed (by kernel_rfl) ?_
      refine rg_q (q_move (x := .d (.v _)) rfl) ?_
      refine rg_q (q_assign (x := .d (.v _)) rfl) ?_
      refine rg_nil ?_
      refine aops_nil ?_
      change Awp _ _ _ _ _
      refine awp_seq ?_
      refine awp_region 6 mixed (by kernel_rfl) ?_
      first | refine rg_q (q_move (x := .d (.fn _ _)) rfl) ?_ | refine rg_q (q_move (x := .d (.mfn _ _)) rfl) ?_
      first | refine rg_q (q_move (x := .d (.sl _ _)) rfl) ?_ | refine rg_q (q_move (x := .rs _) rfl) ?_ | refine rg_q (q_move (x := .d (.v _)) rfl) ?_
      refine rg_q (q_move (x := .d (.v _)) rfl) ?_
      first | refine rg_q (q_indexAddr sl46 rfl rfl (by omega) (map_at (by omega) hx)) ?_ | refine rg_q (q_indexAddr_rs sl46 rfl rfl rfl (by omega) (by omega)) ?_
      refine rg_q (q_loadA (ds := C x) sz87 rfl hds hCx) ?_
      refine rg_q (q_callC hen rfl (.cons rfl .nil) (hfx)) ?_
      refine rg_nil ?_
      refine aops_nil ?_
      change Awp _ _ _ _ _
      refine awp_cond rfl (fun hc4 => ?_) (fun hc4 => ?_)
      ·
        (try simp only [decide_eq_true_eq, decide_eq_false_iff_not, Bool.and_eq_true, Bool.or_eq_true, Bool.and_eq_false_iff, Bool.or_eq_false_iff, Bool.not_eq_true', Bool.not_eq_false', Bool.not_true, Bool.not_false, bif_and, bif_or, Bool.not_not, ne_eq, Decidable.not_not, not_true_eq_false, not_false_eq_true, Int.not_le, Int.not_lt] at hc4)
        refine awp_seq ?_
        refine awp_region 2 mixed (by kernel_rfl) ?_
        refine rg_q (q_move (x := .d (.v _)) rfl) ?_
        refine rg_q (q_assign (x := .d (.v _)) rfl) ?_
        refine rg_nil ?_
        refine aops_nil ?_
        change Awp _ _ _ _ _
        refine awp_ret ?_
        refine ⟨_, (.cons (.tmp (by first | exact .d _ | exact .rs rfl | exact .ref rfl | exact .tref rfl (.cons (.d _ rfl) (.cons (.rs rfl) .nil)))) .nil), ?_⟩
        rw [hh, hd, if_pos (by simpa using hc4)]; rfl
      ·
        (try simp only [decide_eq_true_eq, decide_eq_false_iff_not, Bool.and_eq_true, Bool.or_eq_true, Bool.and_eq_false_iff, Bool.or_eq_false_iff, Bool.not_eq_true', Bool.not_eq_false', Bool.not_true, Bool.not_false, bif_and, bif_or, Bool.not_not, ne_eq, Decidable.not_not, not_true_eq_false, not_false_eq_true, Int.not_le, Int.not_lt] at hc4)
        refine awp_skip ?_
        change Awp _ _ _ _ _
        refine awp_region 2 mixed (by kernel_rfl) ?_
        refine rg_q (q_add rfl rfl (In64.mk (by omega) (by omega))) ?_
        refine rg_q (q_move (x := .d (.v _)) rfl) ?_
        refine rg_nil ?_
        refine aops_nil ?_
        refine ⟨k + 1, ⟨by omega, by rw [hh, hd, if_neg (by simpa using hc4)]⟩, by omega, ?_⟩
        exact le_head (ms := []) (by repeat (first | exact Out.refl _ | exact Out.head rfl rfl | (refine Out.put ?_ rfl) | (refine Out.site ?_ rfl) | (refine Out.putn ?_) | (refine Out.headIn ?_ rfl rfl rfl) | (refine Out.called ?_ rfl rfl))) ⟨(by first | rfl | (simp; done)), trivial⟩ trivial rfl rfl rfl rfl
    ·
      (try simp only [decide_eq_true_eq, decide_eq_false_iff_not, Bool.and_eq_true, Bool.or_eq_true, Bool.and_eq_false_iff, Bool.or_eq_false_iff, Bool.not_eq_true', Bool.not_eq_false', Bool.not_true, Bool.not_false, bif_and, bif_or, Bool.not_not, ne_eq, Decidable.not_not, not_true_eq_false, not_false_eq_true, Int.not_le, Int.not_lt] at hc2)
      refine awp_exit ?_
      change Awp _ _ _ _ _
      refine awp_seq ?_
      refine awp_region 1 mixed (by kernel_rfl) ?_
      refine rg_q (q_assign (x := .d (.v _)) rfl) ?_
      refine rg_nil ?_
      refine aops_nil ?_
      change Awp _ _ _ _ _
      refine awp_ret ?_
      refine ⟨_, (.cons (.tmp (by first | exact .d _ | exact .rs rfl | exact .ref rfl | exact .tref rfl (.cons (.d _ rfl) (.cons (.rs rfl) .nil)))) .nil), ?_⟩
      rw [hh, List.drop_of_length_le (by omega)]; rfl
set_option maxRecDepth 100000 in
theorem containsStep_p {α : Type} (C : α → List D) (f : α → Bool) (g : FuncId) (cap : List D) (hen : enB Tryz.prog g = true) (l : List α) (hC : ∀ a, (C a).length = 4) (hf : ∀ a ∈ l, PC Tryz.prog g (.agg (C a) :: cap) (.v (.bool (f a)))) : PC Tryz.prog 71 [.sl 4 (l.map C), .fn (.func g) cap] (.v (.bool (decide (0 ≤ idxOf f 0 l)))) := by
  refine pc_of_awp Tryz.func71 rfl Tryz.ntmps71 (rs := [.tmp 4]) Tryz.results71 (by simp) fun w0 => ?_
  refine awp_seq ?_
  refine awp_region 1 mixed (by kernel_rfl) ?_
  refine rg_q (q_assign (x := .d (.v _)) rfl) ?_
  refine rg_nil ?_
  refine aops_nil ?_
  change Awp _ _ _ _ _
  refine awp_seq ?_
  refine awp_region 5 mixed (by kernel_rfl) ?_
  first | refine rg_q (q_move (x := .d (.sl _ _)) rfl) ?_ | refine rg_q (q_move (x := .rs _) rfl) ?_ | refine rg_q (q_move (x := .d (.v _)) rfl) ?_
  first | refine rg_q (q_move (x := .d (.fn _ _)) rfl) ?_ | refine rg_q (q_move (x := .d (.mfn _ _)) rfl) ?_
  first | refine rg_q (q_call en85 (.cons rfl (.cons rfl .nil)) rfl (indexStep_p C f g cap hen l hC hf)) ?_ | refine rg_q (q_callF en85 (.cons (by first | exact .d _ | exact .rs rfl | exact .ref rfl | exact .nil _ | exact .tref rfl (by repeat (first | exact .nil | refine .cons (.d _ rfl) ?_ | refine .cons (.rs rfl) ?_))) (.cons (by first | exact .d _ | exact .rs rfl | exact .ref rfl | exact .nil _ | exact .tref rfl (by repeat (first | exact .nil | refine .cons (.d _ rfl) ?_ | refine .cons (.rs rfl) ?_))) .nil)) rfl (indexStep_p C f g cap hen l hC hf) (by first | exact .v _ | exact D.Flat.tupF (by repeat first | exact trivial | refine ⟨.v _, ?_⟩) | exact D.Flat.aggF (by repeat first | exact trivial | refine ⟨.v _, ?_⟩))) ?_
  refine rg_q (q_geq rfl rfl) ?_
  refine rg_q (q_assign (x := .d (.v _)) rfl) ?_
  refine rg_nil ?_
  refine aops_nil ?_
  change Awp _ _ _ _ _
  refine awp_ret ?_
  refine ⟨_, (.cons (.tmp (by first | exact .d _ | exact .rs rfl | exact .ref rfl | exact .tref rfl (.cons (.d _ rfl) (.cons (.rs rfl) .nil)))) .nil), ?_⟩
  rfl

def stepBad (l : List Stp) (k : Nat) (s : Stp) : Int :=
  if isNm s.nm = false then 4 else if 0 ≤ idxOf (fun t : Stp => decide (t.nm = s.nm)) 0 (l.take k) then 5 else if inR 1 s.lasts 1000000 = false ∨ inR 0 s.warm 2000 = false then 2 else 0
def needsBad (i : Int) : Option Int → List Int → Int
  | _, [] => 0
  | p, n :: ns => if inR 0 n (i - 1) = false then 6 else if ordBad p n = true then 9 else needsBad i (some n) ns
def ckSFrom (l : List Stp) : Nat → List Stp → Int × Int
  | _, [] => (0, 0)
  | i, s :: ss => if stepBad l i s ≠ 0 then (i, stepBad l i s) else if needsBad i none s.needs ≠ 0 then (i, needsBad i none s.needs) else ckSFrom l (i + 1) ss
def ckS (l : List Stp) : Int × Int := if l.length = 0 then (0, 10) else if 10 < l.length then (0, 8) else ckSFrom l 0 l
def prevI (l : List Int) : Nat → Option Int
  | 0 => none
  | k + 1 => l[k]?
set_option maxRecDepth 100000 in
theorem checkSteps_p (l : List Stp) (hs : ∀ s ∈ l, SzOk s.nm) : PC Tryz.prog 52 [.sl 4 (l.map stepC)] (.tup [.v (.int .i64 ((ckS l).1)), .v (.int .i64 ((ckS l).2))]) := by
  refine pc_of_awpN Tryz.func52 rfl Tryz.ntmps52 (rs := [.tmp 2, .tmp 3]) Tryz.results52 (by simp) fun w0 hmine hrnd hpn => ?_
  refine awp_seq ?_
  refine awp_region 2 mixed (by kernel_rfl) ?_
  refine rg_q (q_assign (x := .d (.v _)) rfl) ?_
  refine rg_q (q_assign (x := .d (.v _)) rfl) ?_
  refine rg_nil ?_
  refine aops_nil ?_
  change Awp _ _ _ _ _
  refine awp_seq ?_
  refine awp_block ?_
  refine awp_seq ?_
  refine awp_region 4 mixed (by kernel_rfl) ?_
  first | refine rg_q (q_move (x := .d (.sl _ _)) rfl) ?_ | refine rg_q (q_move (x := .rs _) rfl) ?_ | refine rg_q (q_move (x := .d (.v _)) rfl) ?_
  first | refine rg_q (q_len isl46 rfl (by first | exact len_map _ _ | rfl)) ?_ | refine rg_q (q_len_rs isl46 rfl rfl) ?_ | refine rg_q (q_len_nil isl46 rfl) ?_
  refine rg_q (q_eql rfl rfl) ?_
  refine rg_q (q_assign (x := .d (.v _)) rfl) ?_
  refine rg_nil ?_
  refine aops_nil ?_
  change Awp _ _ _ _ _
  first | refine awp_len (t := 9) rfl (fun hl9 => ?_) | skip
  (try simp only [List.length_map] at hl9)
  refine awp_cond rfl (fun hc1 => ?_) (fun hc1 => ?_)
  ·
    (try simp only [decide_eq_true_eq, decide_eq_false_iff_not, Bool.and_eq_true, Bool.or_eq_true, Bool.and_eq_false_iff, Bool.or_eq_false_iff, Bool.not_eq_true', Bool.not_eq_false', Bool.not_true, Bool.not_false, bif_and, bif_or, Bool.not_not, ne_eq, Decidable.not_not, not_true_eq_false, not_false_eq_true, Int.not_le, Int.not_lt] at hc1)
    have hz : ckS l = (0, 10) := by unfold ckS; rw [if_pos (by omega)]
    refine awp_seq ?_
    refine awp_region 2 mixed (by kernel_rfl) ?_
    refine rg_q (q_assign (x := .d (.v _)) rfl) ?_
    refine rg_q (q_assign (x := .d (.v _)) rfl) ?_
    refine rg_nil ?_
    refine aops_nil ?_
    change Awp _ _ _ _ _
    refine awp_ret ?_
    refine ⟨_, (.cons (.tmp (by first | exact .d _ | exact .rs rfl | exact .ref rfl | exact .tref rfl (.cons (.d _ rfl) (.cons (.rs rfl) .nil)))) (.cons (.tmp (by first | exact .d _ | exact .rs rfl | exact .ref rfl | exact .tref rfl (.cons (.d _ rfl) (.cons (.rs rfl) .nil)))) .nil)), ?_⟩
    rw [hz]; rfl
  ·
    (try simp only [decide_eq_true_eq, decide_eq_false_iff_not, Bool.and_eq_true, Bool.or_eq_true, Bool.and_eq_false_iff, Bool.or_eq_false_iff, Bool.not_eq_true', Bool.not_eq_false', Bool.not_true, Bool.not_false, bif_and, bif_or, Bool.not_not, ne_eq, Decidable.not_not, not_true_eq_false, not_false_eq_true, Int.not_le, Int.not_lt] at hc1)
    refine awp_seq ?_
    refine awp_region 4 mixed (by kernel_rfl) ?_
    first | refine rg_q (q_move (x := .d (.sl _ _)) rfl) ?_ | refine rg_q (q_move (x := .rs _) rfl) ?_ | refine rg_q (q_move (x := .d (.v _)) rfl) ?_
    first | refine rg_q (q_len isl46 rfl (by first | exact len_map _ _ | rfl)) ?_ | refine rg_q (q_len_rs isl46 rfl rfl) ?_ | refine rg_q (q_len_nil isl46 rfl) ?_
    refine rg_q (q_gtr rfl rfl) ?_
    refine rg_q (q_assign (x := .d (.v _)) rfl) ?_
    refine rg_nil ?_
    refine aops_nil ?_
    change Awp _ _ _ _ _
    first | refine awp_len (t := 13) rfl (fun hl13 => ?_) | skip
    (try simp only [List.length_map] at hl13)
    refine awp_cond rfl (fun hc3 => ?_) (fun hc3 => ?_)
    ·
      (try simp only [decide_eq_true_eq, decide_eq_false_iff_not, Bool.and_eq_true, Bool.or_eq_true, Bool.and_eq_false_iff, Bool.or_eq_false_iff, Bool.not_eq_true', Bool.not_eq_false', Bool.not_true, Bool.not_false, bif_and, bif_or, Bool.not_not, ne_eq, Decidable.not_not, not_true_eq_false, not_false_eq_true, Int.not_le, Int.not_lt] at hc3)
      have hz : ckS l = (0, 8) := by unfold ckS; rw [if_neg (by omega), if_pos (by omega)]
      refine awp_seq ?_
      refine awp_region 2 mixed (by kernel_rfl) ?_
      refine rg_q (q_assign (x := .d (.v _)) rfl) ?_
      refine rg_q (q_assign (x := .d (.v _)) rfl) ?_
      refine rg_nil ?_
      refine aops_nil ?_
      change Awp _ _ _ _ _
      refine awp_ret ?_
      refine ⟨_, (.cons (.tmp (by first | exact .d _ | exact .rs rfl | exact .ref rfl | exact .tref rfl (.cons (.d _ rfl) (.cons (.rs rfl) .nil)))) (.cons (.tmp (by first | exact .d _ | exact .rs rfl | exact .ref rfl | exact .tref rfl (.cons (.d _ rfl) (.cons (.rs rfl) .nil)))) .nil)), ?_⟩
      rw [hz]; rfl
    ·
      (try simp only [decide_eq_true_eq, decide_eq_false_iff_not, Bool.and_eq_true, Bool.or_eq_true, Bool.and_eq_false_iff, Bool.or_eq_false_iff, Bool.not_eq_true', Bool.not_eq_false', Bool.not_true, Bool.not_false, bif_and, bif_or, Bool.not_not, ne_eq, Decidable.not_not, not_true_eq_false, not_false_eq_true, Int.not_le, Int.not_lt] at hc3)
      have hz : ckS l = ckSFrom l 0 l := by unfold ckS; rw [if_neg (by omega), if_neg (by omega)]
      refine awp_skip ?_
      change Awp _ _ _ _ _
      refine awp_seq ?_
      refine awp_seq ?_
      refine awp_region 3 mixed (by kernel_rfl) ?_
      first | refine rg_q (q_move (x := .d (.sl _ _)) rfl) ?_ | refine rg_q (q_move (x := .rs _) rfl) ?_ | refine rg_q (q_move (x := .d (.v _)) rfl) ?_
      first | refine rg_q (q_len isl46 rfl (by first | exact len_map _ _ | rfl)) ?_ | refine rg_q (q_len_rs isl46 rfl rfl) ?_ | refine rg_q (q_len_nil isl46 rfl) ?_
      refine rg_q (q_move (x := .d (.v _)) rfl) ?_
      refine rg_nil ?_
      refine aops_nil ?_
      change Awp _ _ _ _ _
      first | refine awp_len (t := 16) rfl (fun hl16 => ?_) | skip
      (try simp only [List.length_map] at hl16)
      refine awp_block ?_
      refine awp_loopH [2, 3, 4, 5, 6, 7, 18, 19, 20, 21, 22, 23, 24, 25, 26, 27, 28, 29, 30, 31, 32, 33, 34, 35, 36, 37, 38, 39, 40, 41, 42, 43, 44, 45, 46, 47, 48, 49, 50, 51, 52, 53, 54, 55, 56, 57, 58, 59, 60, 61, 62, 63, 64, 65, 66, 67, 68, 69, 70, 71, 72, 73, 74, 75, 76, 77, 78] [] (α := Nat) (fun k => [(18, T.i (k : Int))]) (fun k => []) (fun k => k ≤ l.length ∧ ckSFrom l 0 l = ckSFrom l k (l.drop k)) (fun k => l.length - k) 0 ⟨Nat.zero_le _, rfl⟩ ?_ ?_
      · exact le_head (ms := []) (by repeat (first | exact Out.refl _ | exact Out.head rfl rfl | (refine Out.put ?_ rfl) | (refine Out.site ?_ rfl) | (refine Out.putn ?_) | (refine Out.headIn ?_ rfl rfl rfl) | (refine Out.called ?_ rfl rfl))) ⟨(by first | rfl | (simp; done)), trivial⟩ trivial rfl rfl rfl rfl
      ·
        intro k ⟨hk, hf⟩
        refine awp_seq ?_
        refine awp_region 1 mixed (by kernel_rfl) ?_
        refine rg_q (q_lss rfl rfl) ?_
        refine rg_nil ?_
        refine aops_nil ?_
        change Awp _ _ _ _ _
        refine awp_seq ?_
        refine awp_cond rfl (fun hc6 => ?_) (fun hc6 => ?_)
        ·
          (try simp only [decide_eq_true_eq, decide_eq_false_iff_not, Bool.and_eq_true, Bool.or_eq_true, Bool.and_eq_false_iff, Bool.or_eq_false_iff, Bool.not_eq_true', Bool.not_eq_false', Bool.not_true, Bool.not_false, bif_and, bif_or, Bool.not_not, ne_eq, Decidable.not_not, not_true_eq_false, not_false_eq_true, Int.not_le, Int.not_lt] at hc6)
          have hlt : k < l.length := by omega
          have hx := List.getElem?_eq_getElem hlt
          have hd : ckSFrom l k (l.drop k) = if stepBad l k l[k] ≠ 0 then ((k : Int), stepBad l k l[k]) else if needsBad k none l[k].needs ≠ 0 then ((k : Int), needsBad k none l[k].needs) else ckSFrom l (k + 1) (l.drop (k + 1)) := by
            rw [List.drop_eq_getElem_cons hlt]; rfl
          have hsz := hs _ (List.getElem_mem hlt)
          generalize l[k] = x at *
          have hcn := containsStep_p stepC (fun t : Stp => decide (t.nm = x.nm)) 72 [.pt (stepC x) 0] en72 (l.take k) (fun _ => rfl) (fun a _ => checkSteps1_p a x)
          refine awp_skip ?_
          change Awp _ _ _ _ _
          refine awp_seq ?_
          refine awp_block ?_
          refine awp_seq ?_
          refine awp_region 3 mixed (by kernel_rfl) ?_
          refine rg_q (q_move (x := .d (.v _)) rfl) ?_
          first | refine rg_q (q_indexAddr sl46 rfl rfl (by omega) (map_at (by omega) hx)) ?_ | refine rg_q (q_indexAddr sl46 rfl rfl (by omega) (map_at (by omega) hn)) ?_ | refine rg_q (q_indexAddr_rs sl46 rfl rfl rfl (by omega) (by omega)) ?_
          first | refine rg_q (q_loadA (ds := [_, _, _, _]) sz87 rfl rfl rfl) ?_ | refine rg_q (q_load_refA (ds := [_, _, _, _]) sz87 rfl rfl rfl rfl) ?_
          refine rg_nil ?_
          refine aops_alloc zr87 rfl rfl rfl ?_
          refine aops_q rfl (q_assign (x := .d (.v _)) rfl) ?_
          first | refine aops_store sz87 rfl rfl (by first | exact .inl rfl | exact .inr ⟨_, rfl⟩) rfl rfl (by first | decide | simp; done | exact Nat.le_of_ble_eq_true rfl) rfl ?_ | refine aops_storeT (z := .rs _) sz87 rfl rfl rfl rfl (by first | decide | simp) rfl ?_ | refine aops_storeT (z := .d _) sz87 rfl rfl rfl rfl (by first | decide | simp) rfl ?_ | refine aops_storeTA sz87 rfl rfl (by first | exact .inl rfl | exact .inr ⟨_, rfl⟩) rfl rfl (by first | decide | simp) rfl ?_
          refine aops_nil ?_
          change Awp _ _ _ _ _
          refine Awp.le (le_freeze 5 5 0 (cs := stepC x) rfl rfl rfl rfl hmine) ?_
          refine awp_seq ?_
          refine awp_block ?_
          refine awp_seq ?_
          refine awp_region 5 mixed (by kernel_rfl) ?_
          first | refine rg_q (q_fieldAddr fld87_0 rfl) ?_ | refine rg_q (q_fieldAddr_ref fld87_0 rfl) ?_
          first | refine rg_q (q_load sz9 rfl rfl) ?_ | refine rg_q (q_load_ref sz9 rfl rfl rfl) ?_ | refine rg_q (q_load_tb (x := .d _) sz9 rfl rfl rfl) ?_ | refine rg_q (q_load_tb (x := .rs _) sz9 rfl rfl rfl) ?_
          first | refine rg_q (q_call en70 (.cons rfl .nil) rfl (isName_p _ hsz)) ?_ | refine rg_q (q_callF en70 (.cons (by first | exact .d _ | exact .rs rfl | exact .ref rfl | exact .nil _ | exact .tref rfl (by repeat (first | exact .nil | refine .cons (.d _ rfl) ?_ | refine .cons (.rs rfl) ?_))) .nil) rfl (isName_p _ hsz) (by first | exact .v _ | exact D.Flat.tupF (by repeat first | exact trivial | refine ⟨.v _, ?_⟩) | exact D.Flat.aggF (by repeat first | exact trivial | refine ⟨.v _, ?_⟩))) ?_
          refine rg_q (q_not rfl) ?_
          refine rg_q (q_assign (x := .d (.v _)) rfl) ?_
          refine rg_nil ?_
          refine aops_nil ?_
          change Awp _ _ _ _ _
          refine awp_cond rfl (fun hc8 => ?_) (fun hc8 => ?_)
          ·
            (try simp only [decide_eq_true_eq, decide_eq_false_iff_not, Bool.and_eq_true, Bool.or_eq_true, Bool.and_eq_false_iff, Bool.or_eq_false_iff, Bool.not_eq_true', Bool.not_eq_false', Bool.not_true, Bool.not_false, bif_and, bif_or, Bool.not_not, ne_eq, Decidable.not_not, not_true_eq_false, not_false_eq_true, Int.not_le, Int.not_lt] at hc8)
            have hb : stepBad l k x = 4 := by unfold stepBad; rw [if_pos hc8]
            refine awp_seq ?_
            refine awp_region 3 mixed (by kernel_rfl) ?_
            refine rg_q (q_move (x := .d (.v _)) rfl) ?_
            refine rg_q (q_assign (x := .d (.v _)) rfl) ?_
            refine rg_q (q_assign (x := .d (.v _)) rfl) ?_
            refine rg_nil ?_
            refine aops_nil ?_
            change Awp _ _ _ _ _
            refine awp_ret ?_
            refine ⟨_, (.cons (.tmp (by first | exact .d _ | exact .rs rfl | exact .ref rfl | exact .tref rfl (.cons (.d _ rfl) (.cons (.rs rfl) .nil)))) (.cons (.tmp (by first | exact .d _ | exact .rs rfl | exact .ref rfl | exact .tref rfl (.cons (.d _ rfl) (.cons (.rs rfl) .nil)))) .nil)), ?_⟩
            rw [hz, hf, hd, if_pos (by rw [hb]; simp), hb]; rfl
          ·
            (try simp only [decide_eq_true_eq, decide_eq_false_iff_not, Bool.and_eq_true, Bool.or_eq_true, Bool.and_eq_false_iff, Bool.or_eq_false_iff, Bool.not_eq_true', Bool.not_eq_false', Bool.not_true, Bool.not_false, bif_and, bif_or, Bool.not_not, ne_eq, Decidable.not_not, not_true_eq_false, not_false_eq_true, Int.not_le, Int.not_lt] at hc8)
            refine awp_seq ?_
            refine awp_region 6 mixed (by kernel_rfl) ?_
            first | refine rg_q (q_move (x := .d (.sl _ _)) rfl) ?_ | refine rg_q (q_move (x := .rs _) rfl) ?_ | refine rg_q (q_move (x := .d (.v _)) rfl) ?_
            refine rg_q (q_move (x := .d (.v _)) rfl) ?_
            refine rg_q (q_slice sl46 rfl rfl rfl (by (try simp only [List.length_map]); omega) (by (try simp only [List.length_map]); omega) (by first | exact map_slice _ _ _ _ | rfl)) ?_
            refine rg_q (q_makeFunc (.cons rfl .nil)) ?_
            first | refine rg_q (q_call en71 (.cons rfl (.cons rfl .nil)) rfl (hcn)) ?_ | refine rg_q (q_callF en71 (.cons (by first | exact .d _ | exact .rs rfl | exact .ref rfl | exact .nil _ | exact .tref rfl (by repeat (first | exact .nil | refine .cons (.d _ rfl) ?_ | refine .cons (.rs rfl) ?_))) (.cons (by first | exact .d _ | exact .rs rfl | exact .ref rfl | exact .nil _ | exact .tref rfl (by repeat (first | exact .nil | refine .cons (.d _ rfl) ?_ | refine .cons (.rs rfl) ?_))) .nil)) rfl (hcn) (by first | exact .v _ | exact D.Flat.tupF (by repeat first | exact trivial | refine ⟨.v _, ?_⟩) | exact D.Flat.aggF (by repeat first | exact trivial | refine ⟨.v _, ?_⟩))) ?_
            refine rg_q (q_assign (x := .d (.v _)) rfl) ?_
            refine rg_nil ?_
            refine aops_nil ?_
            change Awp _ _ _ _ _
            refine awp_cond rfl (fun hc10 => ?_) (fun hc10 => ?_)
            ·
              (try simp only [decide_eq_true_eq, decide_eq_false_iff_not, Bool.and_eq_true, Bool.or_eq_true, Bool.and_eq_false_iff, Bool.or_eq_false_iff, Bool.not_eq_true', Bool.not_eq_false', Bool.not_true, Bool.not_false, bif_and, bif_or, Bool.not_not, ne_eq, Decidable.not_not, not_true_eq_false, not_false_eq_true, Int.not_le, Int.not_lt] at hc10)
              have hb : stepBad l k x = 5 := by unfold stepBad; rw [if_neg (by simpa using hc8), if_pos hc10]
              refine awp_seq ?_
              refine awp_region 3 mixed (by kernel_rfl) ?_
              refine rg_q (q_move (x := .d (.v _)) rfl) ?_
              refine rg_q (q_assign (x := .d (.v _)) rfl) ?_
              refine rg_q (q_assign (x := .d (.v _)) rfl) ?_
              refine rg_nil ?_
              refine aops_nil ?_
              change Awp _ _ _ _ _
              refine awp_ret ?_
              refine ⟨_, (.cons (.tmp (by first | exact .d _ | exact .rs rfl | exact .ref rfl | exact .tref rfl (.cons (.d _ rfl) (.cons (.rs rfl) .nil)))) (.cons (.tmp (by first | exact .d _ | exact .rs rfl | exact .ref rfl | exact .tref rfl (.cons (.d _ rfl) (.cons (.rs rfl) .nil)))) .nil)), ?_⟩
              rw [hz, hf, hd, if_pos (by rw [hb]; simp), hb]; rfl
            ·
              (try simp only [decide_eq_true_eq, decide_eq_false_iff_not, Bool.and_eq_true, Bool.or_eq_true, Bool.and_eq_false_iff, Bool.or_eq_false_iff, Bool.not_eq_true', Bool.not_eq_false', Bool.not_true, Bool.not_false, bif_and, bif_or, Bool.not_not, ne_eq, Decidable.not_not, not_true_eq_false, not_false_eq_true, Int.not_le, Int.not_lt] at hc10)
              refine awp_seq ?_
              refine awp_region 11 mixed (by kernel_rfl) ?_
              first | refine rg_q (q_fieldAddr fld87_1 rfl) ?_ | refine rg_q (q_fieldAddr_ref fld87_1 rfl) ?_
              first | refine rg_q (q_load sz3 rfl rfl) ?_ | refine rg_q (q_load_ref sz3 rfl rfl rfl) ?_ | refine rg_q (q_load_tb (x := .d _) sz3 rfl rfl rfl) ?_ | refine rg_q (q_load_tb (x := .rs _) sz3 rfl rfl rfl) ?_
              first | refine rg_q (q_call en32 (.cons rfl (.cons rfl (.cons rfl .nil))) rfl (within_p _ _ _)) ?_ | refine rg_q (q_callF en32 (.cons (by first | exact .d _ | exact .rs rfl | exact .ref rfl | exact .nil _ | exact .tref rfl (by repeat (first | exact .nil | refine .cons (.d _ rfl) ?_ | refine .cons (.rs rfl) ?_))) (.cons (by first | exact .d _ | exact .rs rfl | exact .ref rfl | exact .nil _ | exact .tref rfl (by repeat (first | exact .nil | refine .cons (.d _ rfl) ?_ | refine .cons (.rs rfl) ?_))) (.cons (by first | exact .d _ | exact .rs rfl | exact .ref rfl | exact .nil _ | exact .tref rfl (by repeat (first | exact .nil | refine .cons (.d _ rfl) ?_ | refine .cons (.rs rfl) ?_))) .nil))) rfl (within_p _ _ _) (by first | exact .v _ | exact D.Flat.tupF (by repeat first | exact trivial | refine ⟨.v _, ?_⟩) | exact D.Flat.aggF (by repeat first | exact trivial | refine ⟨.v _, ?_⟩))) ?_
              refine rg_q (q_not rfl) ?_
              refine rg_q (q_move (x := .d (.v _)) rfl) ?_
              first | refine rg_g rfl rfl (fun hG => (q_fieldAddr fld87_2 rfl)) ?_ | refine rg_g rfl rfl (fun hG => (q_fieldAddr_ref fld87_2 rfl)) ?_
              first | refine rg_g rfl rfl (fun hG => (q_load sz3 rfl rfl)) ?_ | refine rg_g rfl rfl (fun hG => (q_load_ref sz3 rfl rfl rfl)) ?_ | refine rg_g rfl rfl (fun hG => (q_load_tb (x := .d _) sz3 rfl rfl rfl)) ?_ | refine rg_g rfl rfl (fun hG => (q_load_tb (x := .rs _) sz3 rfl rfl rfl)) ?_
              first | refine rg_g rfl rfl (fun hG => (q_call en32 (.cons rfl (.cons rfl (.cons rfl .nil))) rfl (within_p _ _ _))) ?_ | refine rg_g rfl rfl (fun hG => (q_callF en32 (.cons (by first | exact .d _ | exact .rs rfl | exact .ref rfl | exact .nil _ | exact .tref rfl (by repeat (first | exact .nil | refine .cons (.d _ rfl) ?_ | refine .cons (.rs rfl) ?_))) (.cons (by first | exact .d _ | exact .rs rfl | exact .ref rfl | exact .nil _ | exact .tref rfl (by repeat (first | exact .nil | refine .cons (.d _ rfl) ?_ | refine .cons (.rs rfl) ?_))) (.cons (by first | exact .d _ | exact .rs rfl | exact .ref rfl | exact .nil _ | exact .tref rfl (by repeat (first | exact .nil | refine .cons (.d _ rfl) ?_ | refine .cons (.rs rfl) ?_))) .nil))) rfl (within_p _ _ _) (by first | exact .v _ | exact D.Flat.tupF (by repeat first | exact trivial | refine ⟨.v _, ?_⟩) | exact D.Flat.aggF (by repeat first | exact trivial | refine ⟨.v _, ?_⟩)))) ?_
              refine rg_g rfl rfl (fun hG => (q_not rfl)) ?_
              first | refine rg_pick rfl rfl rfl rfl rfl rfl ?_ | refine rg_q (q_pick rfl rfl rfl) ?_
              refine rg_q (q_assign (x := .d (.v _)) rfl) ?_
              refine rg_nil ?_
              refine aops_nil ?_
              change Awp _ _ _ _ _
              refine awp_cond rfl (fun hc12 => ?_) (fun hc12 => ?_)
              ·
                (try simp only [decide_eq_true_eq, decide_eq_false_iff_not, Bool.and_eq_true, Bool.or_eq_true, Bool.and_eq_false_iff, Bool.or_eq_false_iff, Bool.not_eq_true', Bool.not_eq_false', Bool.not_true, Bool.not_false, bif_and, bif_or, Bool.not_not, ne_eq, Decidable.not_not, not_true_eq_false, not_false_eq_true, Int.not_le, Int.not_lt] at hc12)
                have hb : stepBad l k x = 2 := by unfold stepBad; rw [if_neg (by simpa using hc8), if_neg (by omega), if_pos hc12]
                refine awp_seq ?_
                refine awp_region 3 mixed (by kernel_rfl) ?_
                refine rg_q (q_move (x := .d (.v _)) rfl) ?_
                refine rg_q (q_assign (x := .d (.v _)) rfl) ?_
                refine rg_q (q_assign (x := .d (.v _)) rfl) ?_
                refine rg_nil ?_
                refine aops_nil ?_
                change Awp _ _ _ _ _
                refine awp_ret ?_
                refine ⟨_, (.cons (.tmp (by first | exact .d _ | exact .rs rfl | exact .ref rfl | exact .tref rfl (.cons (.d _ rfl) (.cons (.rs rfl) .nil)))) (.cons (.tmp (by first | exact .d _ | exact .rs rfl | exact .ref rfl | exact .tref rfl (.cons (.d _ rfl) (.cons (.rs rfl) .nil)))) .nil)), ?_⟩
                rw [hz, hf, hd, if_pos (by rw [hb]; simp), hb]; rfl
              ·
                (try simp only [decide_eq_true_eq, decide_eq_false_iff_not, Bool.and_eq_true, Bool.or_eq_true, Bool.and_eq_false_iff, Bool.or_eq_false_iff, Bool.not_eq_true', Bool.not_eq_false', Bool.not_true, Bool.not_false, bif_and, bif_or, Bool.not_not, ne_eq, Decidable.not_not, not_true_eq_false, not_false_eq_true, Int.not_le, Int.not_lt] at hc12)
                have hb : stepBad l k x = 0 := by unfold stepBad; rw [if_neg (by simpa using hc8), if_neg (by omega), if_neg (by simpa using hc12)]
                refine awp_skip ?_
                change Awp _ _ _ _ _
                refine awp_seq ?_
                refine awp_region 4 mixed (by kernel_rfl) ?_
                first | refine rg_q (q_fieldAddr fld87_3 rfl) ?_ | refine rg_q (q_fieldAddr_ref fld87_3 rfl) ?_
                first | refine rg_q (q_load sz50 rfl rfl) ?_ | refine rg_q (q_load_ref sz50 rfl rfl rfl) ?_ | refine rg_q (q_load_tb (x := .d _) sz50 rfl rfl rfl) ?_ | refine rg_q (q_load_tb (x := .rs _) sz50 rfl rfl rfl) ?_
                first | refine rg_q (q_len isl50 rfl (by first | exact len_map _ _ | rfl)) ?_ | refine rg_q (q_len_rs isl50 rfl rfl) ?_ | refine rg_q (q_len_nil isl50 rfl) ?_
                refine rg_q (q_move (x := .d (.v _)) rfl) ?_
                refine rg_nil ?_
                refine aops_nil ?_
                change Awp _ _ _ _ _
                first | refine awp_len (t := 49) rfl (fun hl49 => ?_) | skip
                (try simp only [List.length_map] at hl49)
                refine awp_block ?_
                refine awp_loopH [2, 3, 6, 7, 51, 52, 53, 54, 55, 56, 57, 58, 59, 60, 61, 62, 63, 64, 65, 66, 67, 68, 69, 70, 71, 72, 73, 74, 75, 76, 77] [] (α := Nat) (fun j => [(51, T.i (j : Int))]) (fun j => []) (fun j => j ≤ x.needs.length ∧ needsBad k none x.needs = needsBad k (prevI x.needs j) (x.needs.drop j)) (fun j => x.needs.length - j) 0 ⟨Nat.zero_le _, rfl⟩ ?_ ?_
                · exact le_head (ms := []) (by repeat (first | exact Out.refl _ | exact Out.head rfl rfl | (refine Out.put ?_ rfl) | (refine Out.site ?_ rfl) | (refine Out.putn ?_) | (refine Out.headIn ?_ rfl rfl rfl) | (refine Out.called ?_ rfl rfl))) ⟨(by first | rfl | (simp; done)), trivial⟩ trivial rfl rfl rfl rfl
                ·
                  intro j ⟨hj, hg⟩
                  refine awp_seq ?_
                  refine awp_region 1 mixed (by kernel_rfl) ?_
                  refine rg_q (q_lss rfl rfl) ?_
                  refine rg_nil ?_
                  refine aops_nil ?_
                  change Awp _ _ _ _ _
                  refine awp_seq ?_
                  refine awp_cond rfl (fun hc15 => ?_) (fun hc15 => ?_)
                  ·
                    (try simp only [decide_eq_true_eq, decide_eq_false_iff_not, Bool.and_eq_true, Bool.or_eq_true, Bool.and_eq_false_iff, Bool.or_eq_false_iff, Bool.not_eq_true', Bool.not_eq_false', Bool.not_true, Bool.not_false, bif_and, bif_or, Bool.not_not, ne_eq, Decidable.not_not, not_true_eq_false, not_false_eq_true, Int.not_le, Int.not_lt] at hc15)
                    have hjlt : j < x.needs.length := by omega
                    have hn := List.getElem?_eq_getElem hjlt
                    have hdn : needsBad k (prevI x.needs j) (x.needs.drop j) = if inR 0 x.needs[j] ((k : Int) - 1) = false then 6 else if ordBad (prevI x.needs j) x.needs[j] = true then 9 else needsBad k (prevI x.needs (j + 1)) (x.needs.drop (j + 1)) := by
                      rw [List.drop_eq_getElem_cons hjlt, show prevI x.needs (j + 1) = some x.needs[j] from by simp [prevI, hjlt]]; rfl
                    obtain ⟨y, hp⟩ : ∃ y, 0 < j → x.needs[j - 1]? = some y := by
                      by_cases h0 : 0 < j
                      · exact ⟨x.needs[j - 1], fun _ => List.getElem?_eq_getElem (by omega)⟩
                      · exact ⟨0, fun h => absurd h h0⟩
                    have hpo : 0 < j → prevI x.needs j = some y := fun h0 => by
                      obtain ⟨m, rfl⟩ : ∃ m, j = m + 1 := ⟨j - 1, by omega⟩
                      exact hp h0
                    generalize x.needs[j] = z at *
                    refine awp_skip ?_
                    change Awp _ _ _ _ _
                    refine awp_seq ?_
                    refine awp_block ?_
                    refine awp_seq ?_
                    refine awp_region 5 mixed (by kernel_rfl) ?_
                    refine rg_q (q_move (x := .d (.v _)) rfl) ?_
                    first | refine rg_q (q_indexAddr sl50 rfl rfl (by omega) (map_at (by omega) hx)) ?_ | refine rg_q (q_indexAddr sl50 rfl rfl (by omega) (map_at (by omega) hn)) ?_ | refine rg_q (q_indexAddr_rs sl50 rfl rfl rfl (by omega) (by omega)) ?_
                    first | refine rg_q (q_load sz3 rfl rfl) ?_ | refine rg_q (q_load_ref sz3 rfl rfl rfl) ?_ | refine rg_q (q_load_tb (x := .d _) sz3 rfl rfl rfl) ?_ | refine rg_q (q_load_tb (x := .rs _) sz3 rfl rfl rfl) ?_
                    refine rg_q (q_assign (x := .d (.v _)) rfl) ?_
                    refine rg_q (q_assign (x := .d (.v _)) rfl) ?_
                    refine rg_nil ?_
                    refine aops_nil ?_
                    change Awp _ _ _ _ _
                    refine awp_block ?_
                    refine awp_seq ?_
                    refine awp_region 6 mixed (by kernel_rfl) ?_
                    refine rg_q (q_move (x := .d (.v _)) rfl) ?_
                    refine rg_q (q_move (x := .d (.v _)) rfl) ?_
                    refine rg_q (q_sub rfl rfl (In64.mk (by omega) (by omega))) ?_
                    first | refine rg_q (q_call en32 (.cons rfl (.cons rfl (.cons rfl .nil))) rfl (within_p _ _ _)) ?_ | refine rg_q (q_callF en32 (.cons (by first | exact .d _ | exact .rs rfl | exact .ref rfl | exact .nil _ | exact .tref rfl (by repeat (first | exact .nil | refine .cons (.d _ rfl) ?_ | refine .cons (.rs rfl) ?_))) (.cons (by first | exact .d _ | exact .rs rfl | exact .ref rfl | exact .nil _ | exact .tref rfl (by repeat (first | exact .nil | refine .cons (.d _ rfl) ?_ | refine .cons (.rs rfl) ?_))) (.cons (by first | exact .d _ | exact .rs rfl | exact .ref rfl | exact .nil _ | exact .tref rfl (by repeat (first | exact .nil | refine .cons (.d _ rfl) ?_ | refine .cons (.rs rfl) ?_))) .nil))) rfl (within_p _ _ _) (by first | exact .v _ | exact D.Flat.tupF (by repeat first | exact trivial | refine ⟨.v _, ?_⟩) | exact D.Flat.aggF (by repeat first | exact trivial | refine ⟨.v _, ?_⟩))) ?_
                    refine rg_q (q_not rfl) ?_
                    refine rg_q (q_assign (x := .d (.v _)) rfl) ?_
                    refine rg_nil ?_
                    refine aops_nil ?_
                    change Awp _ _ _ _ _
                    refine awp_cond rfl (fun hc17 => ?_) (fun hc17 => ?_)
                    ·
                      (try simp only [decide_eq_true_eq, decide_eq_false_iff_not, Bool.and_eq_true, Bool.or_eq_true, Bool.and_eq_false_iff, Bool.or_eq_false_iff, Bool.not_eq_true', Bool.not_eq_false', Bool.not_true, Bool.not_false, bif_and, bif_or, Bool.not_not, ne_eq, Decidable.not_not, not_true_eq_false, not_false_eq_true, Int.not_le, Int.not_lt] at hc17)
                      rw [if_pos hc17] at hdn
                      refine awp_seq ?_
                      refine awp_region 3 mixed (by kernel_rfl) ?_
                      refine rg_q (q_move (x := .d (.v _)) rfl) ?_
                      refine rg_q (q_assign (x := .d (.v _)) rfl) ?_
                      refine rg_q (q_assign (x := .d (.v _)) rfl) ?_
                      refine rg_nil ?_
                      refine aops_nil ?_
                      change Awp _ _ _ _ _
                      refine awp_ret ?_
                      refine ⟨_, (.cons (.tmp (by first | exact .d _ | exact .rs rfl | exact .ref rfl | exact .tref rfl (.cons (.d _ rfl) (.cons (.rs rfl) .nil)))) (.cons (.tmp (by first | exact .d _ | exact .rs rfl | exact .ref rfl | exact .tref rfl (.cons (.d _ rfl) (.cons (.rs rfl) .nil)))) .nil)), ?_⟩
                      rw [hz, hf, hd, if_neg (by rw [hb]; simp), hg, hdn, if_pos (by simp)]; rfl
                    ·
                      (try simp only [decide_eq_true_eq, decide_eq_false_iff_not, Bool.and_eq_true, Bool.or_eq_true, Bool.and_eq_false_iff, Bool.or_eq_false_iff, Bool.not_eq_true', Bool.not_eq_false', Bool.not_true, Bool.not_false, bif_and, bif_or, Bool.not_not, ne_eq, Decidable.not_not, not_true_eq_false, not_false_eq_true, Int.not_le, Int.not_lt] at hc17)
                      rw [if_neg (by simpa using hc17)] at hdn
                      refine awp_seq ?_
                      refine awp_region 13 mixed (by kernel_rfl) ?_
                      refine rg_q (q_move (x := .d (.v _)) rfl) ?_
                      refine rg_q (q_gtr rfl rfl) ?_
                      refine rg_q (q_move (x := .d (.v _)) rfl) ?_
                      refine rg_g rfl rfl (fun hG => (q_move (x := .d (.v _)) rfl)) ?_
                      first | refine rg_g rfl rfl (fun hG => (q_fieldAddr fld87_3 rfl)) ?_ | refine rg_g rfl rfl (fun hG => (q_fieldAddr_ref fld87_3 rfl)) ?_
                      first | refine rg_g rfl rfl (fun hG => (q_load sz50 rfl rfl)) ?_ | refine rg_g rfl rfl (fun hG => (q_load_ref sz50 rfl rfl rfl)) ?_ | refine rg_g rfl rfl (fun hG => (q_load_tb (x := .d _) sz50 rfl rfl rfl)) ?_ | refine rg_g rfl rfl (fun hG => (q_load_tb (x := .rs _) sz50 rfl rfl rfl)) ?_
                      refine rg_g rfl rfl (fun hG => (q_move (x := .d (.v _)) rfl)) ?_
                      refine rg_g rfl rfl (fun hG => (q_sub rfl rfl (In64.mk (by (have hg0 := T.bool_inj (a := _) hG.1; (try simp only [decide_eq_true_eq, decide_eq_false_iff_not, Bool.and_eq_true, Bool.or_eq_true, Bool.and_eq_false_iff, Bool.or_eq_false_iff, Bool.not_eq_true', Bool.not_eq_false', Bool.not_true, Bool.not_false, bif_and, bif_or, Bool.not_not, ne_eq, Decidable.not_not, not_true_eq_false, not_false_eq_true, Int.not_le, Int.not_lt] at hg0); omega)) (by (have hg0 := T.bool_inj (a := _) hG.1; (try simp only [decide_eq_true_eq, decide_eq_false_iff_not, Bool.and_eq_true, Bool.or_eq_true, Bool.and_eq_false_iff, Bool.or_eq_false_iff, Bool.not_eq_true', Bool.not_eq_false', Bool.not_true, Bool.not_false, bif_and, bif_or, Bool.not_not, ne_eq, Decidable.not_not, not_true_eq_false, not_false_eq_true, Int.not_le, Int.not_lt] at hg0); omega))))) ?_
                      first | refine rg_g rfl rfl (fun hG => (q_indexAddr sl50 rfl rfl (by (have hg0 := T.bool_inj (a := _) hG.1; (try simp only [decide_eq_true_eq, decide_eq_false_iff_not, Bool.and_eq_true, Bool.or_eq_true, Bool.and_eq_false_iff, Bool.or_eq_false_iff, Bool.not_eq_true', Bool.not_eq_false', Bool.not_true, Bool.not_false, bif_and, bif_or, Bool.not_not, ne_eq, Decidable.not_not, not_true_eq_false, not_false_eq_true, Int.not_le, Int.not_lt] at hg0); omega)) (map_at (k := j - 1) (by (have hg0 := T.bool_inj (a := _) hG.1; (try simp only [decide_eq_true_eq, decide_eq_false_iff_not, Bool.and_eq_true, Bool.or_eq_true, Bool.and_eq_false_iff, Bool.or_eq_false_iff, Bool.not_eq_true', Bool.not_eq_false', Bool.not_true, Bool.not_false, bif_and, bif_or, Bool.not_not, ne_eq, Decidable.not_not, not_true_eq_false, not_false_eq_true, Int.not_le, Int.not_lt] at hg0); omega)) (hp (by (have hg0 := T.bool_inj (a := _) hG.1; (try simp only [decide_eq_true_eq, decide_eq_false_iff_not, Bool.and_eq_true, Bool.or_eq_true, Bool.and_eq_false_iff, Bool.or_eq_false_iff, Bool.not_eq_true', Bool.not_eq_false', Bool.not_true, Bool.not_false, bif_and, bif_or, Bool.not_not, ne_eq, Decidable.not_not, not_true_eq_false, not_false_eq_true, Int.not_le, Int.not_lt] at hg0); omega)))))) ?_ | refine rg_g rfl rfl (fun hG => (q_indexAddr_rs sl50 rfl rfl rfl (by (have hg0 := T.bool_inj (a := _) hG.1; (try simp only [decide_eq_true_eq, decide_eq_false_iff_not, Bool.and_eq_true, Bool.or_eq_true, Bool.and_eq_false_iff, Bool.or_eq_false_iff, Bool.not_eq_true', Bool.not_eq_false', Bool.not_true, Bool.not_false, bif_and, bif_or, Bool.not_not, ne_eq, Decidable.not_not, not_true_eq_false, not_false_eq_true, Int.not_le, Int.not_lt] at hg0); omega)) (by (have hg0 := T.bool_inj (a := _) hG.1; (try simp only [decide_eq_true_eq, decide_eq_false_iff_not, Bool.and_eq_true, Bool.or_eq_true, Bool.and_eq_false_iff, Bool.or_eq_false_iff, Bool.not_eq_true', Bool.not_eq_false', Bool.not_true, Bool.not_false, bif_and, bif_or, Bool.not_not, ne_eq, Decidable.not_not, not_true_eq_false, not_false_eq_true, Int.not_le, Int.not_lt] at hg0); omega)))) ?_
                      first | refine rg_g rfl rfl (fun hG => (q_load sz3 rfl rfl)) ?_ | refine rg_g rfl rfl (fun hG => (q_load_ref sz3 rfl rfl rfl)) ?_ | refine rg_g rfl rfl (fun hG => (q_load_tb (x := .d _) sz3 rfl rfl rfl)) ?_ | refine rg_g rfl rfl (fun hG => (q_load_tb (x := .rs _) sz3 rfl rfl rfl)) ?_
                      refine rg_g rfl rfl (fun hG => (q_leq rfl rfl)) ?_
                      first | refine rg_pick rfl rfl rfl rfl rfl rfl ?_ | refine rg_q (q_pick rfl rfl rfl) ?_
                      refine rg_q (q_assign (x := .d (.v _)) rfl) ?_
                      refine rg_nil ?_
                      refine aops_nil ?_
                      change Awp _ _ _ _ _
                      refine awp_cond rfl (fun hc19 => ?_) (fun hc19 => ?_)
                      ·
                        (try simp only [decide_eq_true_eq, decide_eq_false_iff_not, Bool.and_eq_true, Bool.or_eq_true, Bool.and_eq_false_iff, Bool.or_eq_false_iff, Bool.not_eq_true', Bool.not_eq_false', Bool.not_true, Bool.not_false, bif_and, bif_or, Bool.not_not, ne_eq, Decidable.not_not, not_true_eq_false, not_false_eq_true, Int.not_le, Int.not_lt] at hc19)
                        have ho : ordBad (prevI x.needs j) z = true := by rw [hpo (by omega)]; simp [ordBad]; omega
                        refine awp_seq ?_
                        refine awp_region 3 mixed (by kernel_rfl) ?_
                        refine rg_q (q_move (x := .d (.v _)) rfl) ?_
                        refine rg_q (q_assign (x := .d (.v _)) rfl) ?_
                        refine rg_q (q_assign (x := .d (.v _)) rfl) ?_
                        refine rg_nil ?_
                        refine aops_nil ?_
                        change Awp _ _ _ _ _
                        refine awp_ret ?_
                        refine ⟨_, (.cons (.tmp (by first | exact .d _ | exact .rs rfl | exact .ref rfl | exact .tref rfl (.cons (.d _ rfl) (.cons (.rs rfl) .nil)))) (.cons (.tmp (by first | exact .d _ | exact .rs rfl | exact .ref rfl | exact .tref rfl (.cons (.d _ rfl) (.cons (.rs rfl) .nil)))) .nil)), ?_⟩
                        rw [hz, hf, hd, if_neg (by rw [hb]; simp), hg, hdn, if_pos ho, if_pos (by simp)]; rfl
                      ·
                        (try simp only [decide_eq_true_eq, decide_eq_false_iff_not, Bool.and_eq_true, Bool.or_eq_true, Bool.and_eq_false_iff, Bool.or_eq_false_iff, Bool.not_eq_true', Bool.not_eq_false', Bool.not_true, Bool.not_false, bif_and, bif_or, Bool.not_not, ne_eq, Decidable.not_not, not_true_eq_false, not_false_eq_true, Int.not_le, Int.not_lt] at hc19)
                        have ho : ¬ ordBad (prevI x.needs j) z = true := by
                          by_cases h0 : 0 < j
                          · rw [hpo h0]; simp [ordBad]; omega
                          · have : j = 0 := by omega
                            subst this; simp [prevI, ordBad]
                        refine awp_skip ?_
                        change Awp _ _ _ _ _
                        refine awp_region 2 mixed (by kernel_rfl) ?_
                        refine rg_q (q_add rfl rfl (In64.mk (by omega) (by omega))) ?_
                        refine rg_q (q_move (x := .d (.v _)) rfl) ?_
                        refine rg_nil ?_
                        refine aops_nil ?_
                        refine ⟨j + 1, ⟨by omega, by rw [hg, hdn, if_neg ho]⟩, by omega, ?_⟩
                        exact le_head (ms := []) (by repeat (first | exact Out.refl _ | exact Out.head rfl rfl | (refine Out.put ?_ rfl) | (refine Out.site ?_ rfl) | (refine Out.putn ?_) | (refine Out.headIn ?_ rfl rfl rfl) | (refine Out.called ?_ rfl rfl))) ⟨(by first | rfl | (simp; done)), trivial⟩ trivial rfl rfl rfl rfl
                  ·
                    (try simp only [decide_eq_true_eq, decide_eq_false_iff_not, Bool.and_eq_true, Bool.or_eq_true, Bool.and_eq_false_iff, Bool.or_eq_false_iff, Bool.not_eq_true', Bool.not_eq_false', Bool.not_true, Bool.not_false, bif_and, bif_or, Bool.not_not, ne_eq, Decidable.not_not, not_true_eq_false, not_false_eq_true, Int.not_le, Int.not_lt] at hc15)
                    refine awp_exit ?_
                    change Awp _ _ _ _ _
                    refine awp_region 2 mixed (by kernel_rfl) ?_
                    refine rg_q (q_add rfl rfl (In64.mk (by omega) (by omega))) ?_
                    refine rg_q (q_move (x := .d (.v _)) rfl) ?_
                    refine rg_nil ?_
                    refine aops_nil ?_
                    have hng : needsBad k none x.needs = 0 := by rw [hg, List.drop_of_length_le (by omega)]; rfl
                    refine ⟨k + 1, ⟨by omega, by rw [hf, hd, if_neg (by rw [hb]; simp), if_neg (by rw [hng]; simp)]⟩, by omega, ?_⟩
                    exact le_head (ms := []) (by repeat (first | exact Out.refl _ | exact Out.head rfl rfl | (refine Out.put ?_ rfl) | (refine Out.site ?_ rfl) | (refine Out.putn ?_) | (refine Out.headIn ?_ rfl rfl rfl) | (refine Out.called ?_ rfl rfl))) ⟨(by first | rfl | (simp; done)), trivial⟩ trivial rfl rfl rfl rfl
        ·
          (try simp only [decide_eq_true_eq, decide_eq_false_iff_not, Bool.and_eq_true, Bool.or_eq_true, Bool.and_eq_false_iff, Bool.or_eq_false_iff, Bool.not_eq_true', Bool.not_eq_false', Bool.not_true, Bool.not_false, bif_and, bif_or, Bool.not_not, ne_eq, Decidable.not_not, not_true_eq_false, not_false_eq_true, Int.not_le, Int.not_lt] at hc6)
          refine awp_exit ?_
          change Awp _ _ _ _ _
          refine awp_seq ?_
          refine awp_region 2 mixed (by kernel_rfl) ?_
          refine rg_q (q_assign (x := .d (.v _)) rfl) ?_
          refine rg_q (q_assign (x := .d (.v _)) rfl) ?_
          refine rg_nil ?_
          refine aops_nil ?_
          change Awp _ _ _ _ _
          refine awp_ret ?_
          refine ⟨_, (.cons (.tmp (by first | exact .d _ | exact .rs rfl | exact .ref rfl | exact .tref rfl (.cons (.d _ rfl) (.cons (.rs rfl) .nil)))) (.cons (.tmp (by first | exact .d _ | exact .rs rfl | exact .ref rfl | exact .tref rfl (.cons (.d _ rfl) (.cons (.rs rfl) .nil)))) .nil)), ?_⟩
          rw [hz, hf, List.drop_of_length_le (by omega)]; rfl
end Go.Proofs.YtepaabbfindaeaaGreatDoor.Am.M
