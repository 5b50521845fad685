/- Contracts over the abstract machine: package bench: flaws, specimens. Conditions: none. -/
import Derived.Test.YtphlaicnmmglhaaGreatK4
set_option linter.unusedVariables false
set_option linter.unusedSimpArgs false
-- mini
namespace Go.Proofs.YtphlaicnmmglhaaGreat.Am.M
open Go

structure Flw where
  kd : Int
  at_ : Int × Int
  to_ : Int × Int
  pc : Int
  am : Int
  tp : Int
def flwC (x : Flw) : List D := [.v (.int .i64 x.kd), .v (.int .i64 x.at_.1), .v (.int .i64 x.at_.2), .v (.int .i64 x.to_.1), .v (.int .i64 x.to_.2), .v (.int .i64 x.pc), .v (.int .i64 x.am), .v (.int .i64 x.tp)]
set_option maxRecDepth 100000 in
theorem indexInt_p (f : Int → Bool) (g : FuncId) (cap : List D) (hen : enB Tryz.prog g = true) (l : List Int) (hf : ∀ a ∈ l, PC Tryz.prog g (.v (.int .i64 a) :: cap) (.v (.bool (f a)))) : PC Tryz.prog 247 [.sl 1 (l.map iC), .fn (.func g) cap] (.v (.int .i64 (idxOf f 0 l))) := by
 refine pc_of_awp Tryz.func247 rfl Tryz.ntmps247 (rs := [.tmp 4]) Tryz.results247 (by simp) fun w0 => ?_
 refine awp_seq ?_
 refine awp_region 1 mixed (by kernel_rfl) ?_
 refine rg_q (q_assign (x := .d (.v _)) rfl) ?_
 refine rg_nil (aops_nil ?_)
 change Awp _ _ _ _ _
 refine awp_seq ?_
 refine awp_seq ?_
 refine awp_region 3 mixed (by kernel_rfl) ?_
 refine rg_q (q_move (x := .d (.sl _ _)) rfl) ?_
 refine rg_q (q_len isl77 rfl (by exact len_map _ _)) ?_
 refine rg_q (q_move (x := .d (.v _)) rfl) ?_
 refine rg_nil (aops_nil ?_)
 change Awp _ _ _ _ _
 refine awp_len (t := 6) rfl (fun hl6 => ?_)
 (try simp only [List.length_map] at hl6)
 refine awp_block ?_
 refine awp_loopH [4, 5, 8, 9, 10, 11, 12, 13, 14, 15, 16, 17, 18] [] (α := Nat) (fun k => [(8, T.i (k : Int))]) (fun k => []) (fun k => k ≤ l.length ∧ idxOf f 0 l = idxOf f k (l.drop k)) (fun k => l.length - k) 0 ⟨Nat.zero_le _, rfl⟩ ?_ ?_
 · exact le_head (ms := []) (by repeat (exact Out.refl _)) ⟨(by rfl), trivial⟩ trivial rfl rfl rfl rfl
 ·
  intro k ⟨hk, hh⟩
  refine awp_seq ?_
  refine awp_region 1 mixed (by kernel_rfl) ?_
  refine rg_q (q_lss rfl rfl) ?_
  refine rg_nil (aops_nil ?_)
  change Awp _ _ _ _ _
  refine awp_seq ?_
  refine awp_cond rfl (fun hc2 => ?_) (fun hc2 => ?_)
  ·
   (try simp only [nb, ne_eq] at hc2)
   have hlt : k < l.length := by omega
   have hx := List.getElem?_eq_getElem hlt
   have hd : idxOf f k (l.drop k) = if f l[k] = true then (k : Int) else idxOf f (k + 1) (l.drop (k + 1)) := by rw [List.drop_eq_getElem_cons hlt]; rfl
   have hfx := hf l[k] (List.getElem_mem hlt)
   generalize l[k] = x at *
   refine awp_skip ?_
   change Awp _ _ _ _ _
   refine awp_seq ?_
   refine awp_block ?_
   refine awp_seq ?_
   refine awp_region 2 mixed (by kernel_rfl) ?_
   refine rg_q (q_move (x := .d (.v _)) rfl) (rg_q (q_assign (x := .d (.v _)) rfl) ?_)
   refine rg_nil (aops_nil ?_)
   change Awp _ _ _ _ _
   refine awp_seq ?_
   refine awp_region 6 mixed (by kernel_rfl) ?_
   refine rg_q (q_move (x := .d (.fn _ _)) rfl) (rg_q (q_move (x := .d (.sl _ _)) rfl) (rg_q (q_move (x := .d (.v _)) rfl) ?_))
   refine rg_q (q_indexAddr sl77 rfl rfl (by omega) (map_at (by omega) hx)) ?_
   refine rg_q (q_load sz3 rfl rfl) ?_
   refine rg_q (q_callC hen rfl (.cons rfl .nil) (hfx)) ?_
   refine rg_nil (aops_nil ?_)
   change Awp _ _ _ _ _
   refine awp_cond rfl (fun hc4 => ?_) (fun hc4 => ?_)
   ·
    (try simp only [nb, ne_eq] at hc4)
    refine awp_seq ?_
    refine awp_region 2 mixed (by kernel_rfl) ?_
    refine rg_q (q_move (x := .d (.v _)) rfl) (rg_q (q_assign (x := .d (.v _)) rfl) ?_)
    refine rg_nil (aops_nil ?_)
    change Awp _ _ _ _ _
    refine awp_ret ?_
    refine ⟨_, (.cons (.tmp (by exact .d _)) .nil), ?_⟩
    rw [hh, hd, if_pos (by simpa using hc4)]; rfl
   ·
    (try simp only [nb, ne_eq] at hc4)
    refine awp_skip ?_
    change Awp _ _ _ _ _
    refine awp_region 2 mixed (by kernel_rfl) ?_
    refine rg_q (q_add rfl rfl (In64.mk (by omega) (by omega))) ?_
    refine rg_q (q_move (x := .d (.v _)) rfl) ?_
    refine rg_nil (aops_nil ?_)
    refine ⟨k + 1, ⟨by omega, by rw [hh, hd, if_neg (by simpa using hc4)]⟩, by omega, ?_⟩
    exact le_head (ms := []) (by repeat (first | exact Out.head rfl rfl | (refine Out.put ?_ rfl))) ⟨(by rfl), trivial⟩ trivial rfl rfl rfl rfl
  ·
   (try simp only [nb, ne_eq] at hc2)
   refine awp_exit ?_
   change Awp _ _ _ _ _
   refine awp_seq ?_
   refine awp_region 1 mixed (by kernel_rfl) ?_
   refine rg_q (q_assign (x := .d (.v _)) rfl) ?_
   refine rg_nil (aops_nil ?_)
   change Awp _ _ _ _ _
   refine awp_ret ?_
   refine ⟨_, (.cons (.tmp (by exact .d _)) .nil), ?_⟩
   rw [hh, List.drop_of_length_le (by omega)]; rfl

theorem idxOf_any {α : Type} (f : α → Bool) : ∀ (l : List α) (i : Nat), decide (0 ≤ idxOf f i l) = l.any f
  | [], i => by unfold idxOf; simp
  | x :: xs, i => by
    unfold idxOf
    by_cases h : f x = true
    · rw [if_pos h]; simp [h]
    · rw [if_neg h, idxOf_any f xs]; simp [h]
theorem idxOf_mem {α : Type} (f : α → Bool) (l : List α) : decide (0 ≤ idxOf f 0 l) = l.any f := idxOf_any f l 0
set_option maxRecDepth 100000 in
theorem containsInt_p (f : Int → Bool) (g : FuncId) (cap : List D) (hen : enB Tryz.prog g = true) (l : List Int) (hf : ∀ a ∈ l, PC Tryz.prog g (.v (.int .i64 a) :: cap) (.v (.bool (f a)))) : PC Tryz.prog 181 [.sl 1 (l.map iC), .fn (.func g) cap] (.v (.bool (l.any f))) := by
 have hm := idxOf_mem f l
 refine pc_of_awp Tryz.func181 rfl Tryz.ntmps181 (rs := [.tmp 4]) Tryz.results181 (by simp) fun w0 => ?_
 refine awp_seq ?_
 refine awp_region 1 mixed (by kernel_rfl) ?_
 refine rg_q (q_assign (x := .d (.v _)) rfl) ?_
 refine rg_nil (aops_nil ?_)
 change Awp _ _ _ _ _
 refine awp_seq ?_
 refine awp_region 5 mixed (by kernel_rfl) ?_
 refine rg_q (q_move (x := .d (.sl _ _)) rfl) (rg_q (q_move (x := .d (.fn _ _)) rfl) ?_)
 refine rg_q (q_call en247 (.cons rfl (.cons rfl .nil)) rfl (indexInt_p f g cap hen l hf)) ?_
 refine rg_q (q_geq rfl rfl) (rg_q (q_assign (x := .d (.v _)) rfl) ?_)
 refine rg_nil (aops_nil ?_)
 change Awp _ _ _ _ _
 refine awp_ret ?_
 refine ⟨_, (.cons (.tmp (by exact .d _)) .nil), ?_⟩
 rw [← hm]; rfl
end Go.Proofs.YtphlaicnmmglhaaGreat.Am.M
