/- Contracts over the abstract machine: chapter 9: names, copies. Conditions: none. -/
import Derived.Test.YthpggoophcdgnaaDoorS1
import Derived.Test.YthpggoophcdgnaaDoorShelf
set_option linter.unusedVariables false
set_option linter.unusedSimpArgs false
-- mini
namespace Go.Proofs.YthpggoophcdgnaaDoor.Am.M
open Go

def letterB (c : Int) : Bool := (decide (97 ≤ c) && decide (c ≤ 122)) || (decide (65 ≤ c) && decide (c ≤ 90))
def badCh (i c : Int) : Bool := !letterB c && (decide (i = 0) || (decide (c ≠ 45) && (decide (c < 48) || decide (57 < c))))
def nmGo : Nat → List UInt8 → Bool
  | _, [] => true
  | i, c :: cs => if badCh (i : Int) c.toNat = true then false else nmGo (i + 1) cs
def isNm (s : ByteArray) : Bool := nmGo 0 s.data.toList && (decide (s ≠ ⟨#[]⟩) && decide ((s.size : Int) ≤ 12))
abbrev SzOk (s : ByteArray) : Prop := s.size ≤ 4611686018427387903
set_option maxRecDepth 100000 in
theorem isName_p (s : ByteArray) (hs : SzOk s) : PC Tryd.prog 41 [.v (.string (s))] (.v (.bool (isNm s))) := by
  have hlen : s.data.toList.length = s.size := by simp
  have hnm : isNm s = (nmGo 0 s.data.toList && (decide (s ≠ ⟨#[]⟩) && decide ((s.size : Int) ≤ 12))) := rfl
  refine pc_of_awp Tryd.func41 rfl Tryd.ntmps41 (rs := [.tmp 2]) Tryd.results41 (by simp) fun w0 => ?_
  refine awp_seq ?_
  refine awp_region 1 mixed (by kernel_rfl) ?_
  refine rg_q (q_assign (x := .d (.v _)) rfl) ?_
  refine rg_nil ?_
  refine aops_nil ?_
  change Awp _ _ _ _ _
  refine awp_seq ?_
  refine awp_seq ?_
  refine awp_region 4 mixed (by kernel_rfl) ?_
  refine rg_q (q_move (x := .d (.v _)) rfl) ?_
  refine rg_q (q_bytes str9 sl110 int5 (by assumption) rfl) ?_
  refine rg_q (q_len isl110 rfl (by exact len_map _ _)) ?_
  refine rg_q (q_move (x := .d (.v _)) rfl) ?_
  refine rg_nil ?_
  refine aops_nil ?_
  change Awp _ _ _ _ _
  refine awp_len (t := 7) rfl (fun hl7 => ?_)
  (try simp only [List.length_map] at hl7)
  refine awp_block ?_
  refine awp_loopH [2, 3, 4, 5, 9, 10, 11, 12, 13, 14, 15, 16, 17, 18, 19, 20, 21, 22, 23, 24, 25, 26, 27, 28, 29, 30, 31, 32, 33, 34, 35, 36, 37, 38, 39, 40, 41, 42, 43, 44, 45, 46] [] (α := Nat) (fun k => [(9, T.i (k : Int))]) (fun k => []) (fun k => k ≤ s.data.toList.length ∧ nmGo 0 s.data.toList = nmGo k (s.data.toList.drop k)) (fun k => s.data.toList.length - k) 0 ⟨Nat.zero_le _, rfl⟩ ?_ ?_
  · exact le_head (ms := []) (by repeat (exact Out.refl _)) ⟨(by rfl), trivial⟩ trivial rfl rfl rfl rfl
  ·
    intro k ⟨hk, hf⟩
    refine awp_seq ?_
    refine awp_region 1 mixed (by kernel_rfl) ?_
    refine rg_q (q_lss rfl rfl) ?_
    refine rg_nil ?_
    refine aops_nil ?_
    change Awp _ _ _ _ _
    refine awp_seq ?_
    refine awp_cond rfl (fun hc2 => ?_) (fun hc2 => ?_)
    ·
      (try simp only [nb, ne_eq] at hc2)
      have hlt : k < s.data.toList.length := by omega
      have hx := List.getElem?_eq_getElem hlt
      have hd : nmGo k (s.data.toList.drop k) = if badCh (k : Int) (s.data.toList[k]).toNat = true then false else nmGo (k + 1) (s.data.toList.drop (k + 1)) := by rw [List.drop_eq_getElem_cons hlt]; rfl
      generalize s.data.toList[k] = c at *
      refine awp_skip ?_
      change Awp _ _ _ _ _
      refine awp_seq ?_
      refine awp_block ?_
      refine awp_seq ?_
      refine awp_region 5 mixed (by kernel_rfl) ?_
      refine rg_q (q_move (x := .d (.v _)) rfl) ?_
      refine rg_q (q_indexAddr sl110 rfl rfl (by omega) (map_at (by omega) hx)) ?_
      refine rg_q (q_load sz5 rfl rfl) ?_
      refine rg_q (q_assign (x := .d (.v _)) rfl) ?_
      refine rg_q (q_assign (x := .d (.v _)) rfl) ?_
      refine rg_nil ?_
      refine aops_nil ?_
      change Awp _ _ _ _ _
      refine awp_seq ?_
      refine awp_region 15 mixed (by kernel_rfl) ?_
      refine rg_q (q_move (x := .d (.v _)) rfl) ?_
      refine rg_q (q_geq rfl rfl) ?_
      refine rg_q (q_move (x := .d (.v _)) rfl) ?_
      refine rg_g rfl rfl (fun hG => (q_move (x := .d (.v _)) rfl)) ?_
      refine rg_g rfl rfl (fun hG => (q_leq rfl rfl)) ?_
      refine rg_pick rfl rfl rfl rfl rfl rfl ?_
      refine rg_q (q_move (x := .d (.v _)) rfl) ?_
      refine rg_g rfl rfl (fun hG => (q_move (x := .d (.v _)) rfl)) ?_
      refine rg_g rfl rfl (fun hG => (q_geq rfl rfl)) ?_
      refine rg_g rfl rfl (fun hG => (q_move (x := .d (.v _)) rfl)) ?_
      refine rg_g rfl rfl (fun hG => (q_move (x := .d (.v _)) rfl)) ?_
      refine rg_g rfl rfl (fun hG => (q_leq rfl rfl)) ?_
      refine rg_pickg rfl rfl rfl rfl rfl rfl rfl rfl ?_
      refine rg_pick rfl rfl rfl rfl rfl rfl ?_
      refine rg_q (q_assign (x := .d (.v _)) rfl) ?_
      refine rg_nil ?_
      refine aops_nil ?_
      change Awp _ _ _ _ _
      refine awp_seq ?_
      refine awp_region 18 mixed (by kernel_rfl) ?_
      refine rg_q (q_move (x := .d (.v _)) rfl) ?_
      refine rg_q (q_not rfl) ?_
      refine rg_q (q_move (x := .d (.v _)) rfl) ?_
      refine rg_g rfl rfl (fun hG => (q_move (x := .d (.v _)) rfl)) ?_
      refine rg_g rfl rfl (fun hG => (q_eql rfl rfl)) ?_
      refine rg_g rfl rfl (fun hG => (q_move (x := .d (.v _)) rfl)) ?_
      refine rg_g rfl rfl (fun hG => (q_move (x := .d (.v _)) rfl)) ?_
      refine rg_g rfl rfl (fun hG => (q_neq rfl rfl)) ?_
      refine rg_g rfl rfl (fun hG => (q_move (x := .d (.v _)) rfl)) ?_
      refine rg_g rfl rfl (fun hG => (q_move (x := .d (.v _)) rfl)) ?_
      refine rg_g rfl rfl (fun hG => (q_lss rfl rfl)) ?_
      refine rg_g rfl rfl (fun hG => (q_move (x := .d (.v _)) rfl)) ?_
      refine rg_g rfl rfl (fun hG => (q_move (x := .d (.v _)) rfl)) ?_
      refine rg_g rfl rfl (fun hG => (q_gtr rfl rfl)) ?_
      refine rg_pickg rfl rfl rfl rfl rfl rfl rfl rfl ?_
      refine rg_pickg rfl rfl rfl rfl rfl rfl rfl rfl ?_
      refine rg_pickg rfl rfl rfl rfl rfl rfl rfl rfl ?_
      refine rg_pick rfl rfl rfl rfl rfl rfl ?_
      refine rg_nil ?_
      refine aops_nil ?_
      change Awp _ _ _ _ _
      refine awp_cond rfl (fun hc5 => ?_) (fun hc5 => ?_)
      ·
        have hb : badCh (k : Int) c.toNat = true := by unfold badCh letterB; simpa [bif_and, bif_or] using hc5
        refine awp_seq ?_
        refine awp_region 1 mixed (by kernel_rfl) ?_
        refine rg_q (q_assign (x := .d (.v _)) rfl) ?_
        refine rg_nil ?_
        refine aops_nil ?_
        change Awp _ _ _ _ _
        refine awp_ret ?_
        refine ⟨_, (.cons (.tmp (by exact .d _)) .nil), ?_⟩
        rw [hnm, hf, hd, if_pos hb]; rfl
      ·
        have hb : ¬ badCh (k : Int) c.toNat = true := by unfold badCh letterB; simpa [bif_and, bif_or] using hc5
        refine awp_skip ?_
        change Awp _ _ _ _ _
        refine awp_region 2 mixed (by kernel_rfl) ?_
        refine rg_q (q_add rfl rfl (In64.mk (by omega) (by omega))) ?_
        refine rg_q (q_move (x := .d (.v _)) rfl) ?_
        refine rg_nil ?_
        refine aops_nil ?_
        refine ⟨k + 1, ⟨by omega, by rw [hf, hd, if_neg hb]⟩, by omega, ?_⟩
        exact le_head (ms := []) (by repeat (first | exact Out.head rfl rfl | (refine Out.put ?_ rfl))) ⟨(by rfl), trivial⟩ trivial rfl rfl rfl rfl
    ·
      (try simp only [nb, ne_eq] at hc2)
      refine awp_exit ?_
      change Awp _ _ _ _ _
      refine awp_seq ?_
      refine awp_region 8 mixed (by kernel_rfl) ?_
      refine rg_q (q_move (x := .d (.v _)) rfl) ?_
      refine rg_q (q_neqs rfl rfl) ?_
      refine rg_q (q_move (x := .d (.v _)) rfl) ?_
      refine rg_g rfl rfl (fun hG => (q_move (x := .d (.v _)) rfl)) ?_
      refine rg_g rfl rfl (fun hG => (q_len_str str9 rfl)) ?_
      refine rg_g rfl rfl (fun hG => (q_leq rfl rfl)) ?_
      refine rg_pick rfl rfl rfl rfl rfl rfl ?_
      refine rg_q (q_assign (x := .d (.v _)) rfl) ?_
      refine rg_nil ?_
      refine aops_nil ?_
      change Awp _ _ _ _ _
      refine awp_ret ?_
      refine ⟨_, (.cons (.tmp (by exact .d _)) .nil), ?_⟩
      rw [hnm, hf, List.drop_of_length_le (by omega)]; simp only [bif_and]; rfl
theorem byte_at {s : ByteArray} {k : Nat} {c : UInt8} (h : s.data.toList[k]? = some c) : s[k]? = some c := by
  have h1 : s.data[k]? = some c := by simpa using h
  obtain ⟨h2, h3⟩ := Array.getElem?_eq_some_iff.1 h1
  have hs : k < s.size := h2
  rw [getElem?_pos s k hs]
  exact congrArg some h3
set_option maxRecDepth 100000 in
theorem IsName_p (s : ByteArray) : PC Tryd.prog 19 [.v (.string (s))] (.v (.bool (isNm s))) := by
  have hlen : s.data.toList.length = s.size := by simp
  have hnm : isNm s = (nmGo 0 s.data.toList && (decide (s ≠ ⟨#[]⟩) && decide ((s.size : Int) ≤ 12))) := rfl
  have hnil : s.size < 1 → isNm s = false := fun h => by
    have : s = ⟨#[]⟩ := by
      have h0 : s.data.size = 0 := by have : s.data.size = s.size := rfl; omega
      cases s with | mk d => exact congrArg ByteArray.mk (Array.size_eq_zero_iff.1 h0)
    rw [hnm, this]; simp
  have hgo : 1 ≤ s.size → s.size ≤ 12 → isNm s = nmGo 0 s.data.toList := fun h1 h2 => by
    have : s ≠ ⟨#[]⟩ := fun e => by rw [e] at h1; exact absurd h1 (by decide)
    rw [hnm, decide_eq_true this, decide_eq_true (by omega), Bool.and_true, Bool.and_true]
  refine pc_of_awp Tryd.func19 rfl Tryd.ntmps19 (rs := [.tmp 2]) Tryd.results19 (by simp) fun w0 => ?_
  refine awp_seq ?_
  refine awp_region 1 mixed (by kernel_rfl) ?_
  refine rg_q (q_assign (x := .d (.v _)) rfl) ?_
  refine rg_nil ?_
  refine aops_nil ?_
  change Awp _ _ _ _ _
  refine awp_seq ?_
  refine awp_seq ?_
  refine awp_region 8 mixed (by kernel_rfl) ?_
  refine rg_q (q_move (x := .d (.v _)) rfl) ?_
  refine rg_q (q_len_str str9 rfl) ?_
  refine rg_q (q_lss rfl rfl) ?_
  refine rg_q (q_move (x := .d (.v _)) rfl) ?_
  refine rg_g rfl rfl (fun hG => (q_move (x := .d (.v _)) rfl)) ?_
  refine rg_g rfl rfl (fun hG => (q_len_str str9 rfl)) ?_
  refine rg_g rfl rfl (fun hG => (q_gtr rfl rfl)) ?_
  refine rg_pick rfl rfl rfl rfl rfl rfl ?_
  refine rg_nil ?_
  refine aops_nil ?_
  change Awp _ _ _ _ _
  refine awp_cond rfl (fun hc1 => ?_) (fun hc1 => ?_)
  ·
    (try simp only [nb, ne_eq] at hc1)
    have hz : isNm s = false := by
      rcases hc1 with h | h
      · exact hnil (by omega)
      · rw [hnm, show decide ((s.size : Int) ≤ 12) = false from decide_eq_false (by omega), Bool.and_false, Bool.and_false]
    refine awp_seq ?_
    refine awp_region 1 mixed (by kernel_rfl) ?_
    refine rg_q (q_assign (x := .d (.v _)) rfl) ?_
    refine rg_nil ?_
    refine aops_nil ?_
    change Awp _ _ _ _ _
    refine awp_ret ?_
    refine ⟨_, (.cons (.tmp (by exact .d _)) .nil), ?_⟩
    rw [hz]; rfl
  ·
    (try simp only [nb, ne_eq] at hc1)
    have hz := hgo (by omega) (by omega)
    refine awp_skip ?_
    change Awp _ _ _ _ _
    refine awp_seq ?_
    refine awp_seq ?_
    refine awp_region 1 mixed (by kernel_rfl) ?_
    refine rg_q (q_assign (x := .d (.v _)) rfl) ?_
    refine rg_nil ?_
    refine aops_nil ?_
    change Awp _ _ _ _ _
    refine awp_block ?_
    refine awp_loopH [2, 3, 4, 5, 14, 15, 16, 17, 18, 19, 20, 21, 22, 23, 24, 25, 26, 27, 28, 29, 30, 31, 32, 33, 34, 35, 36, 37, 38, 39, 40, 41, 42, 43, 44, 45, 46, 47, 48, 49, 50, 51, 52, 53, 54] [] (α := Nat) (fun k => [(3, T.i (k : Int))]) (fun k => []) (fun k => k ≤ s.data.toList.length ∧ nmGo 0 s.data.toList = nmGo k (s.data.toList.drop k)) (fun k => s.data.toList.length - k) 0 ⟨Nat.zero_le _, rfl⟩ ?_ ?_
    · exact le_head (ms := []) (by repeat (exact Out.refl _)) ⟨(by rfl), trivial⟩ trivial rfl rfl rfl rfl
    ·
      intro k ⟨hk, hf⟩
      refine awp_seq ?_
      refine awp_seq ?_
      refine awp_region 4 mixed (by kernel_rfl) ?_
      refine rg_q (q_move (x := .d (.v _)) rfl) ?_
      refine rg_q (q_move (x := .d (.v _)) rfl) ?_
      refine rg_q (q_len_str str9 rfl) ?_
      refine rg_q (q_lss rfl rfl) ?_
      refine rg_nil ?_
      refine aops_nil ?_
      change Awp _ _ _ _ _
      refine awp_cond rfl (fun hc4 => ?_) (fun hc4 => ?_)
      ·
        (try simp only [nb, ne_eq] at hc4)
        have hlt : k < s.data.toList.length := by omega
        have hx := List.getElem?_eq_getElem hlt
        have hd : nmGo k (s.data.toList.drop k) = if badCh (k : Int) (s.data.toList[k]).toNat = true then false else nmGo (k + 1) (s.data.toList.drop (k + 1)) := by rw [List.drop_eq_getElem_cons hlt]; rfl
        generalize s.data.toList[k] = c at *
        have hidx : s[(k : Int).toNat]? = some c := by rw [show ((k : Int)).toNat = k from rfl]; exact byte_at hx
        refine awp_skip ?_
        change Awp _ _ _ _ _
        refine awp_seq ?_
        refine awp_block ?_
        refine awp_seq ?_
        refine awp_region 4 mixed (by kernel_rfl) ?_
        refine rg_q (q_move (x := .d (.v _)) rfl) ?_
        refine rg_q (q_move (x := .d (.v _)) rfl) ?_
        refine rg_q (q_index_str str9 rfl rfl (by (omega)) hidx) ?_
        refine rg_q (q_assign (x := .d (.v _)) rfl) ?_
        refine rg_nil ?_
        refine aops_nil ?_
        change Awp _ _ _ _ _
        refine awp_seq ?_
        refine awp_region 15 mixed (by kernel_rfl) ?_
        refine rg_q (q_move (x := .d (.v _)) rfl) ?_
        refine rg_q (q_geq rfl rfl) ?_
        refine rg_q (q_move (x := .d (.v _)) rfl) ?_
        refine rg_g rfl rfl (fun hG => (q_move (x := .d (.v _)) rfl)) ?_
        refine rg_g rfl rfl (fun hG => (q_leq rfl rfl)) ?_
        refine rg_pick rfl rfl rfl rfl rfl rfl ?_
        refine rg_q (q_move (x := .d (.v _)) rfl) ?_
        refine rg_g rfl rfl (fun hG => (q_move (x := .d (.v _)) rfl)) ?_
        refine rg_g rfl rfl (fun hG => (q_geq rfl rfl)) ?_
        refine rg_g rfl rfl (fun hG => (q_move (x := .d (.v _)) rfl)) ?_
        refine rg_g rfl rfl (fun hG => (q_move (x := .d (.v _)) rfl)) ?_
        refine rg_g rfl rfl (fun hG => (q_leq rfl rfl)) ?_
        refine rg_pickg rfl rfl rfl rfl rfl rfl rfl rfl ?_
        refine rg_pick rfl rfl rfl rfl rfl rfl ?_
        refine rg_q (q_assign (x := .d (.v _)) rfl) ?_
        refine rg_nil ?_
        refine aops_nil ?_
        change Awp _ _ _ _ _
        refine awp_seq ?_
        refine awp_region 18 mixed (by kernel_rfl) ?_
        refine rg_q (q_move (x := .d (.v _)) rfl) ?_
        refine rg_q (q_not rfl) ?_
        refine rg_q (q_move (x := .d (.v _)) rfl) ?_
        refine rg_g rfl rfl (fun hG => (q_move (x := .d (.v _)) rfl)) ?_
        refine rg_g rfl rfl (fun hG => (q_eql rfl rfl)) ?_
        refine rg_g rfl rfl (fun hG => (q_move (x := .d (.v _)) rfl)) ?_
        refine rg_g rfl rfl (fun hG => (q_move (x := .d (.v _)) rfl)) ?_
        refine rg_g rfl rfl (fun hG => (q_neq rfl rfl)) ?_
        refine rg_g rfl rfl (fun hG => (q_move (x := .d (.v _)) rfl)) ?_
        refine rg_g rfl rfl (fun hG => (q_move (x := .d (.v _)) rfl)) ?_
        refine rg_g rfl rfl (fun hG => (q_lss rfl rfl)) ?_
        refine rg_g rfl rfl (fun hG => (q_move (x := .d (.v _)) rfl)) ?_
        refine rg_g rfl rfl (fun hG => (q_move (x := .d (.v _)) rfl)) ?_
        refine rg_g rfl rfl (fun hG => (q_gtr rfl rfl)) ?_
        refine rg_pickg rfl rfl rfl rfl rfl rfl rfl rfl ?_
        refine rg_pickg rfl rfl rfl rfl rfl rfl rfl rfl ?_
        refine rg_pickg rfl rfl rfl rfl rfl rfl rfl rfl ?_
        refine rg_pick rfl rfl rfl rfl rfl rfl ?_
        refine rg_nil ?_
        refine aops_nil ?_
        change Awp _ _ _ _ _
        refine awp_cond rfl (fun hc8 => ?_) (fun hc8 => ?_)
        ·
          have hb : badCh (k : Int) c.toNat = true := by unfold badCh letterB; simpa [bif_and, bif_or] using hc8
          refine awp_seq ?_
          refine awp_region 1 mixed (by kernel_rfl) ?_
          refine rg_q (q_assign (x := .d (.v _)) rfl) ?_
          refine rg_nil ?_
          refine aops_nil ?_
          change Awp _ _ _ _ _
          refine awp_ret ?_
          refine ⟨_, (.cons (.tmp (by exact .d _)) .nil), ?_⟩
          rw [hz, hf, hd, if_pos hb]; rfl
        ·
          have hb : ¬ badCh (k : Int) c.toNat = true := by unfold badCh letterB; simpa [bif_and, bif_or] using hc8
          refine awp_skip ?_
          change Awp _ _ _ _ _
          refine awp_region 3 mixed (by kernel_rfl) ?_
          refine rg_q (q_move (x := .d (.v _)) rfl) ?_
          refine rg_q (q_add rfl rfl (In64.mk (by (omega)) (by (omega)))) ?_
          refine rg_q (q_assign (x := .d (.v _)) rfl) ?_
          refine rg_nil ?_
          refine aops_nil ?_
          refine ⟨k + 1, ⟨by omega, by rw [hf, hd, if_neg hb]⟩, by omega, ?_⟩
          exact le_head (ms := []) (by repeat (first | exact Out.head rfl rfl | (refine Out.put ?_ rfl))) ⟨(by rfl), trivial⟩ trivial rfl rfl rfl rfl
      ·
        (try simp only [nb, ne_eq] at hc4)
        refine awp_exit ?_
        change Awp _ _ _ _ _
        refine awp_seq ?_
        refine awp_region 1 mixed (by kernel_rfl) ?_
        refine rg_q (q_assign (x := .d (.v _)) rfl) ?_
        refine rg_nil ?_
        refine aops_nil ?_
        change Awp _ _ _ _ _
        refine awp_ret ?_
        refine ⟨_, (.cons (.tmp (by exact .d _)) .nil), ?_⟩
        rw [hz, hf, List.drop_of_length_le (by omega)]; rfl

theorem grow_p (n : Nat) (hn : n ≤ 20000) : PCS Tryd.prog 45 [.d (.v (.slice none 0 0)), T.i n] [] (.rs 0) [.row 43 13 []] := by
  intro w ok blk val vs _ _ hnone _ hL
  obtain ⟨v1, v2, rfl⟩ : ∃ v1 v2, vs = [v1, v2] := by
    match vs, hL with
    | [v1, v2], _ => exact ⟨v1, v2, rfl⟩
    | [], h => exact h.elim
    | [_], h => exact h.2.elim
    | _ :: _ :: _ :: _, h => exact h.2.2.elim
  obtain ⟨h1, h2, _⟩ := hL
  have e1 : v1 = .slice none 0 0 := Rep.v_eq h1
  have e2 : v2 = .int .i64 (n : Int) := Rep.v_eq h2
  subst e1; subst e2
  rcases Nat.eq_zero_or_pos n with h0 | h0
  · subst h0
    refine (Any8.slices_Grow_room Tryd.laysNm84 none 0 0 0 w (Nat.le_refl _) (by omega) (by omega) (Nat.le_refl _)).mono fun e w' ⟨he, hw⟩ => ?_
    subst hw
    refine ⟨_, fun _ => none, fun _ => .slice none 0 0, he, fun i h => (by cases i <;> cases h), fun i b h => (by cases h), fun i b h => (by cases h), fun i j b h => (by cases h), ⟨rfl, rfl, rfl, Nat.le_refl _, fun _ _ _ => rfl⟩, fun i => ?_, ⟨⟨_, _, _, rfl⟩, rfl⟩⟩
    cases i with
    | zero => exact ⟨fun i x h => by simp at h, fun i x j d h => by simp at h, .inl ⟨rfl, rfl, rfl⟩⟩
    | succ i => cases i <;> exact rfl
  · obtain ⟨inf, hi, hsi⟩ := slB_info sl22
    obtain ⟨inf', hi', hbi⟩ := byB_info by43
    rw [hi] at hi'; cases hi'
    refine (Any8.slices_Grow_grow Tryd.laysNm84 inf _ hi (zrB_info zr43 hi) (by rw [hsi]; decide) none 0 0 n [] w (Nat.le_refl _) (by omega) (by rw [hbi]; omega) (by omega) (by simp) (fun _ => rfl) (fun a h => by cases h)).mono fun e w' ⟨he, hw⟩ => ?_
    simp only [Nat.zero_add] at he hw
    generalize hk : grownCap w n 0 (Tryd.laysNm84_ren.t 25) = k at he hw
    have hge : n ≤ k := by rw [← hk]; exact grownCap_ge w n 0 _
    have hkm : k ≤ maxLen := by rw [← hk]; exact grownCap_le_maxLen w n 0 _ (by unfold maxLen; omega)
    generalize hcs : (#[] ++ Builtin.zeroCells _ (n - 0) ++ Builtin.zeroCells _ (k - n) : Array Value) = cs at hw
    have hE : Ext w w' := by rw [hw]; exact (Ext.refl w).drew.alloc _
    have hblk : w'.heap[w.heap.size]? = some (.cells cs 43 (0, 0)) := by rw [hw]; exact heap_alloc_new w.drew _
    refine ⟨_, fun i => if i = 0 then some w.heap.size else none, fun _ => .slice (some ⟨w.heap.size, 0, none⟩) 0 k, he, fun i h => (by cases i <;> cases h), fun i b h => ?_, fun i b h => ?_, fun i j b h1 h2 => ?_, ⟨hE.os, hE.tape, hE.output, hE.size, fun k hk _ => hE.block k hk⟩, fun i => ?_, ⟨⟨_, _, _, rfl⟩, rfl⟩⟩
    · simp only at h; split at h
      · cases h; exact .inr (Nat.le_refl _)
      · cases h
    · simp only at h; split at h
      · cases h; exact heap_lt hblk
      · cases h
    · simp only at h1 h2
      split at h1 <;> split at h2
      · omega
      · cases h2
      · cases h1
      · cases h1
    · cases i with
      | zero =>
        refine ⟨fun i x h => by simp at h, fun i x j d h => by simp at h, .inr ⟨w.heap.size, cs, k, rfl, rfl, Nat.zero_le _, hkm, hblk, ?_, fun i x j d h => by simp at h⟩⟩
        rw [← hcs]
        simp only [Array.size_append, size_zeroCells]
        show (0 + (n - 0) * 13 + (k - n) * 13 : Nat) = k * 13
        omega
      | succ i => cases i <;> exact rfl

theorem aops_grow {P : Program} {w0 : Cx} {st : St} {ops rest : List Oper} {R : Exit → St → Prop} {ty : TypeId} {pos : String} {after : Array Edge} {d n : Nat} {y : Operand} {at_ : Array TypeId} {f : FuncId} {e : TypeId} (he : enB P f = true) (hr : PCS P f [.d (.v (.slice none 0 0)), T.i n] [] (.rs 0) [.row e 13 []]) (hy : st.ev y = T.i n) (hs : st.s d = .no) (hd : Nat.blt d st.n = true)
    (h : Aops P w0 ops rest R ((afterS st [d] [] [.row e 13 []]).put (some d) (.rs d))) : Aops P w0 ops (⟨some d, .call ⟨.value (.func f), #[.const (.slice none 0 0), y], at_⟩, ty, pos, after, none⟩ :: rest) R st :=
  aops_callW (ys := [.const (.slice none 0 0), y]) (args := [.d (.v (.slice none 0 0)), T.i n]) (ss := []) (ss' := [.row e 13 []]) (r := .rs 0) [d] [] he hr (by rfl) rfl rfl (fun i h => by simp at h) (fun i _ h => by
    have : i = 0 := by simpa using h
    subst this; exact hs) hd (fun a w blk val hh => ⟨okOf w0 blk, fun _ h => h, fun i b h => by simp at h, ⟨Rep.v _ rfl, by have := hh.ev y; rw [hy] at this; exact this, trivial⟩, .inl fun _ h => h⟩) h
def rsC (l : List (List D)) : List D := [.sl 13 l]
theorem flat_take {α : Type} {ss : List (List α)} {k : Nat} {x : List α} (h : ss[k]? = some x) : (ss.take (k + 1)).flatten = (ss.take k).flatten ++ x := by
  rw [List.take_add_one, h]; simp
theorem flat_le {α : Type} (ss : List (List α)) (k : Nat) : (ss.take k).flatten.length ≤ ss.flatten.length := by
  conv => rhs; rw [← List.take_append_drop k ss]
  rw [List.flatten_append, List.length_append]; omega
set_option maxRecDepth 100000 in
theorem concat_p (ss : List (List (List D))) (hl : ss.flatten.length ≤ 10000) (hn : ss.length ≤ 1000) : PC Tryd.prog 25 [.sl 1 (ss.map rsC)] (.sl 13 ss.flatten) := by
  refine pc_of_awp Tryd.func25 rfl Tryd.ntmps25 (rs := [.tmp 2]) Tryd.results25 (by simp) fun w0 => ?_
  refine awp_seq ?_
  refine awp_region 1 mixed (by kernel_rfl) ?_
  refine rg_q (q_assign (x := .d (.sl _ _)) rfl) ?_
  refine rg_nil ?_
  refine aops_nil ?_
  change Awp _ _ _ _ _
  refine awp_seq ?_
  refine awp_region 1 mixed (by kernel_rfl) ?_
  refine rg_q (q_assign (x := .d (.v _)) rfl) ?_
  refine rg_nil ?_
  refine aops_nil ?_
  change Awp _ _ _ _ _
  refine awp_seq ?_
  refine awp_seq ?_
  refine awp_region 3 mixed (by kernel_rfl) ?_
  refine rg_q (q_move (x := .d (.sl _ _)) rfl) ?_
  refine rg_q (q_len isl89 rfl (by exact len_map _ _)) ?_
  refine rg_q (q_move (x := .d (.v _)) rfl) ?_
  refine rg_nil ?_
  refine aops_nil ?_
  change Awp _ _ _ _ _
  refine awp_len (t := 9) rfl (fun hl9 => ?_)
  (try simp only [List.length_map] at hl9)
  refine awp_block ?_
  refine awp_loopH [3, 5, 11, 12, 13, 14, 15, 16, 17, 18, 19, 20, 21, 22] [] (α := Nat) (fun k => [(11, T.i (k : Int)), (3, T.i ((ss.take k).flatten.length : Int))]) (fun k => []) (fun k => k ≤ ss.length) (fun k => ss.length - k) 0 (Nat.zero_le _) ?_ ?_
  · exact le_head (ms := []) (by repeat (exact Out.refl _)) ⟨(by rfl), (by rfl), trivial⟩ trivial rfl rfl rfl rfl
  ·
    intro k hk
    refine awp_seq ?_
    refine awp_region 1 mixed (by kernel_rfl) ?_
    refine rg_q (q_lss rfl rfl) ?_
    refine rg_nil ?_
    refine aops_nil ?_
    change Awp _ _ _ _ _
    refine awp_seq ?_
    refine awp_cond rfl (fun hc3 => ?_) (fun hc3 => ?_)
    ·
      (try simp only [nb, ne_eq] at hc3)
      have hlt : k < ss.length := by (try simp only [List.length_map] at hc3); omega
      obtain ⟨x, hx⟩ : ∃ x, ss[k]? = some x := ⟨_, List.getElem?_eq_getElem hlt⟩
      have hft := flat_take hx
      have hfl := flat_le ss (k + 1)
      rw [hft, List.length_append] at hfl
      refine awp_skip ?_
      change Awp _ _ _ _ _
      refine awp_seq ?_
      refine awp_block ?_
      refine awp_seq ?_
      refine awp_region 3 mixed (by kernel_rfl) ?_
      refine rg_q (q_indexAddr sl89 rfl rfl (by omega) (map_at (by omega) hx)) ?_
      refine rg_q (q_load sz22 rfl rfl) ?_
      refine rg_q (q_assign (x := .d (.sl _ _)) rfl) ?_
      refine rg_nil ?_
      refine aops_nil ?_
      change Awp _ _ _ _ _
      refine awp_seq ?_
      refine awp_region 5 mixed (by kernel_rfl) ?_
      refine rg_q (q_move (x := .d (.v _)) rfl) ?_
      refine rg_q (q_move (x := .d (.sl _ _)) rfl) ?_
      refine rg_q (q_len isl22 rfl (by rfl)) ?_
      refine rg_q (q_add rfl rfl (In64.mk (by omega) (by omega))) ?_
      refine rg_q (q_assign (x := .d (.v _)) rfl) ?_
      refine rg_nil ?_
      refine aops_nil ?_
      change Awp _ _ _ _ _
      refine awp_len (t := 16) rfl (fun hl16 => ?_)
      (try simp only [List.length_map] at hl16)
      refine awp_seq ?_
      refine awp_region 2 mixed (by kernel_rfl) ?_
      refine rg_q (q_move (x := .d (.v _)) rfl) ?_
      refine rg_q (q_lss rfl rfl) ?_
      refine rg_nil ?_
      refine aops_nil ?_
      change Awp _ _ _ _ _
      refine awp_cond rfl (fun hc6 => ?_) (fun hc6 => ?_)
      ·
        exact absurd (of_decide_eq_true hc6) (by omega)
      ·
        (try simp only [nb, ne_eq] at hc6)
        refine awp_skip ?_
        change Awp _ _ _ _ _
        refine awp_region 2 mixed (by kernel_rfl) ?_
        refine rg_q (q_add rfl rfl (In64.mk (by omega) (by omega))) ?_
        refine rg_q (q_move (x := .d (.v _)) rfl) ?_
        refine rg_nil ?_
        refine aops_nil ?_
        refine ⟨k + 1, by omega, by omega, ?_⟩
        exact le_head (ms := []) (by repeat (first | exact Out.head rfl rfl | (refine Out.put ?_ rfl))) ⟨(by rfl), (by (show T.i _ = T.i _; rw [hft, List.length_append]; rfl)), trivial⟩ trivial rfl rfl rfl rfl
    ·
      (try simp only [nb, ne_eq] at hc3)
      have hkn : k = ss.length := by (try simp only [List.length_map] at hc3); omega
      subst hkn
      refine awp_exit ?_
      change Awp _ _ _ _ _
      refine awp_seq ?_
      refine awp_region 1 mixed (by kernel_rfl) ?_
      refine rg_q (q_move (x := .d (.v _)) rfl) ?_
      refine rg_nil ?_
      refine aops_grow en45 (grow_p (ss.take ss.length).flatten.length (by rw [List.take_length]; omega)) rfl rfl rfl ?_
      refine aops_q rfl (q_assign (x := .rs _) rfl) ?_
      refine aops_nil ?_
      change Awp _ _ _ _ _
      refine awp_seq ?_
      refine awp_seq ?_
      refine awp_region 3 mixed (by kernel_rfl) ?_
      refine rg_q (q_move (x := .d (.sl _ _)) rfl) ?_
      refine rg_q (q_len isl89 rfl (by exact len_map _ _)) ?_
      refine rg_q (q_move (x := .d (.v _)) rfl) ?_
      refine rg_nil ?_
      refine aops_nil ?_
      change Awp _ _ _ _ _
      refine awp_len (t := 25) rfl (fun hl25 => ?_)
      (try simp only [List.length_map] at hl25)
      refine awp_block ?_
      refine awp_loopH [6, 8, 27, 28, 29, 30, 31, 32, 33, 34, 24] [] (α := Nat) (fun k => [(27, T.i (k : Int)), (6, .rs 24)]) (fun k => [(24, .row 43 13 (ss.take k).flatten)]) (fun k => k ≤ ss.length) (fun k => ss.length - k) 0 (Nat.zero_le _) ?_ ?_
      · exact le_head (ms := []) (by repeat (exact Out.refl _)) ⟨(by rfl), (by rfl), trivial⟩ ⟨(by rfl), trivial⟩ rfl rfl rfl rfl
      ·
        intro k hk
        refine awp_seq ?_
        refine awp_region 1 mixed (by kernel_rfl) ?_
        refine rg_q (q_lss rfl rfl) ?_
        refine rg_nil ?_
        refine aops_nil ?_
        change Awp _ _ _ _ _
        refine awp_seq ?_
        refine awp_cond rfl (fun hc11 => ?_) (fun hc11 => ?_)
        ·
          (try simp only [nb, ne_eq] at hc11)
          have hlt : k < ss.length := by (try simp only [List.length_map] at hc11); omega
          obtain ⟨x, hx⟩ : ∃ x, ss[k]? = some x := ⟨_, List.getElem?_eq_getElem hlt⟩
          have hft := flat_take hx
          have hfl := flat_le ss (k + 1)
          rw [hft, List.length_append] at hfl
          refine awp_skip ?_
          change Awp _ _ _ _ _
          refine awp_seq ?_
          refine awp_block ?_
          refine awp_seq ?_
          refine awp_region 3 mixed (by kernel_rfl) ?_
          refine rg_q (q_indexAddr sl89 rfl rfl (by omega) (map_at (by omega) hx)) ?_
          refine rg_q (q_load sz22 rfl rfl) ?_
          refine rg_q (q_assign (x := .d (.sl _ _)) rfl) ?_
          refine rg_nil ?_
          refine aops_nil ?_
          change Awp _ _ _ _ _
          refine awp_region 2 mixed (by kernel_rfl) ?_
          refine rg_q (q_move (x := .rs _) rfl) ?_
          refine rg_q (q_move (x := .d (.sl _ _)) rfl) ?_
          refine rg_nil ?_
          refine aops_append sl22 zr43 by43 rfl (by decide) rfl rfl rfl rfl (by (try simp only [List.length_map, List.length_append, List.length_cons, List.length_nil]); omega) (by (try simp only [List.length_map, List.length_append, List.length_cons, List.length_nil]); omega) rfl rfl ?_
          refine aops_q rfl (q_assign (x := .rs _) rfl) ?_
          refine aops_nil ?_
          change Awp _ _ _ _ _
          refine awp_region 2 mixed (by kernel_rfl) ?_
          refine rg_q (q_add rfl rfl (In64.mk (by omega) (by omega))) ?_
          refine rg_q (q_move (x := .d (.v _)) rfl) ?_
          refine rg_nil ?_
          refine aops_nil ?_
          refine ⟨k + 1, by omega, by omega, ?_⟩
          exact le_head (ms := []) (by repeat (first | exact Out.head rfl rfl | (refine Out.put ?_ rfl) | (refine Out.site ?_ rfl) | (refine Out.killS ?_ rfl))) ⟨(by rfl), (by rfl), trivial⟩ ⟨(by (show Site.row 43 13 _ = Site.row 43 13 _; rw [hft])), trivial⟩ rfl rfl rfl rfl
        ·
          (try simp only [nb, ne_eq] at hc11)
          have hkn : k = ss.length := by (try simp only [List.length_map] at hc11); omega
          subst hkn
          refine awp_exit ?_
          change Awp _ _ _ _ _
          refine awp_seq ?_
          refine awp_region 2 mixed (by kernel_rfl) ?_
          refine rg_q (q_move (x := .rs _) rfl) ?_
          refine rg_q (q_assign (x := .rs _) rfl) ?_
          refine rg_nil ?_
          refine aops_nil ?_
          change Awp _ _ _ _ _
          refine awp_ret ?_
          refine ⟨_, (.cons (.tmp (by exact .rs rfl)) .nil), ?_⟩
          rw [List.take_length]; rfl
end Go.Proofs.YthpggoophcdgnaaDoor.Am.M
