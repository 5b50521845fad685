/- Contracts over the abstract machine: package bench: arrays, echoes. Conditions: none. -/
import Derived.Test.YtphlaicnmmglhaaGreatK3
set_option linter.unusedVariables false
set_option linter.unusedSimpArgs false
-- mini
namespace Go.Proofs.YtphlaicnmmglhaaGreat.Am.M
open Go
set_option maxRecDepth 100000 in
theorem twithin_p (n lo hi : Int) : PC Tryz.prog 155 [.v (.int .i64 (n)), .v (.int .i64 (lo)), .v (.int .i64 (hi))] (.v (.bool (inR lo n hi))) := by
 refine pc_of_awp Tryz.func155 rfl Tryz.ntmps155 (rs := [.tmp 6]) Tryz.results155 (by simp) fun w0 => ?_
 refine awp_seq ?_
 refine awp_region 1 mixed (by kernel_rfl) ?_
 refine rg_q (q_assign (x := .d (.v _)) rfl) ?_
 refine rg_nil (aops_nil ?_)
 change Awp _ _ _ _ _
 refine awp_seq ?_
 refine awp_region 9 mixed (by kernel_rfl) ?_
 refine rg_q (q_move (x := .d (.v _)) rfl) (rg_q (q_move (x := .d (.v _)) rfl) (rg_q (q_leq rfl rfl) (rg_q (q_move (x := .d (.v _)) rfl) ?_)))
 refine rg_g rfl rfl (fun hG => (q_move (x := .d (.v _)) rfl)) ?_
 refine rg_g rfl rfl (fun hG => (q_move (x := .d (.v _)) rfl)) ?_
 refine rg_g rfl rfl (fun hG => (q_leq rfl rfl)) ?_
 refine rg_pick rfl rfl rfl rfl rfl rfl ?_
 refine rg_q (q_assign (x := .d (.v _)) rfl) ?_
 refine rg_nil (aops_nil ?_)
 change Awp _ _ _ _ _
 refine awp_ret ?_
 refine ⟨_, (.cons (.tmp (by exact .d _)) .nil), ?_⟩
 simp only [bif_and]; rfl
set_option maxRecDepth 100000 in
theorem bwithin_p (n lo hi : Int) : PC Tryz.prog 256 [.v (.int .i64 (n)), .v (.int .i64 (lo)), .v (.int .i64 (hi))] (.v (.bool (inR lo n hi))) := by
 refine pc_of_awp Tryz.func256 rfl Tryz.ntmps256 (rs := [.tmp 6]) Tryz.results256 (by simp) fun w0 => ?_
 refine awp_seq ?_
 refine awp_region 1 mixed (by kernel_rfl) ?_
 refine rg_q (q_assign (x := .d (.v _)) rfl) ?_
 refine rg_nil (aops_nil ?_)
 change Awp _ _ _ _ _
 refine awp_seq ?_
 refine awp_region 9 mixed (by kernel_rfl) ?_
 refine rg_q (q_move (x := .d (.v _)) rfl) (rg_q (q_move (x := .d (.v _)) rfl) (rg_q (q_leq rfl rfl) (rg_q (q_move (x := .d (.v _)) rfl) ?_)))
 refine rg_g rfl rfl (fun hG => (q_move (x := .d (.v _)) rfl)) ?_
 refine rg_g rfl rfl (fun hG => (q_move (x := .d (.v _)) rfl)) ?_
 refine rg_g rfl rfl (fun hG => (q_leq rfl rfl)) ?_
 refine rg_pick rfl rfl rfl rfl rfl rfl ?_
 refine rg_q (q_assign (x := .d (.v _)) rfl) ?_
 refine rg_nil (aops_nil ?_)
 change Awp _ _ _ _ _
 refine awp_ret ?_
 refine ⟨_, (.cons (.tmp (by exact .d _)) .nil), ?_⟩
 simp only [bif_and]; rfl
set_option maxRecDepth 100000 in
theorem bsmall_p (n m : Int) (h1 : 0 ≤ m) (h2 : m ≤ 1000000000000) : PC Tryz.prog 218 [.v (.int .i64 (n)), .v (.int .i64 (m))] (.v (.bool (inR (-m) n m))) := by
 refine pc_of_awp Tryz.func218 rfl Tryz.ntmps218 (rs := [.tmp 4]) Tryz.results218 (by simp) fun w0 => ?_
 refine awp_seq ?_
 refine awp_region 1 mixed (by kernel_rfl) ?_
 refine rg_q (q_assign (x := .d (.v _)) rfl) ?_
 refine rg_nil (aops_nil ?_)
 change Awp _ _ _ _ _
 refine awp_seq ?_
 refine awp_region 6 mixed (by kernel_rfl) ?_
 refine rg_q (q_move (x := .d (.v _)) rfl) (rg_q (q_move (x := .d (.v _)) rfl) ?_)
 refine rg_q (q_neg rfl (In64.mk (by omega) (by omega))) ?_
 refine rg_q (q_move (x := .d (.v _)) rfl) ?_
 refine rg_q (q_call en256 (.cons rfl (.cons rfl (.cons rfl .nil))) rfl (bwithin_p _ _ _)) ?_
 refine rg_q (q_assign (x := .d (.v _)) rfl) ?_
 refine rg_nil (aops_nil ?_)
 change Awp _ _ _ _ _
 refine awp_ret ?_
 refine ⟨_, (.cons (.tmp (by exact .d _)) .nil), ?_⟩
 rfl
set_option maxRecDepth 100000 in
theorem bfirst_p (l : List Int) : PC Tryz.prog 161 [.sl 1 (l.map iC)] (.v (.int .i64 (firstE l))) := by
 refine pc_of_awp Tryz.func161 rfl Tryz.ntmps161 (rs := [.tmp 2]) Tryz.results161 (by simp) fun w0 => ?_
 refine awp_seq ?_
 refine awp_region 1 mixed (by kernel_rfl) ?_
 refine rg_q (q_assign (x := .d (.v _)) rfl) ?_
 refine rg_nil (aops_nil ?_)
 change Awp _ _ _ _ _
 refine awp_seq ?_
 refine awp_seq ?_
 refine awp_region 3 mixed (by kernel_rfl) ?_
 refine rg_q (q_move (x := .d (.sl _ _)) rfl) ?_
 refine rg_q (q_len isl282 rfl (by exact len_map _ _)) ?_
 refine rg_q (q_move (x := .d (.v _)) rfl) ?_
 refine rg_nil (aops_nil ?_)
 change Awp _ _ _ _ _
 refine awp_len (t := 5) rfl (fun hl5 => ?_)
 (try simp only [List.length_map] at hl5)
 refine awp_block ?_
 refine awp_loopH [2, 4, 7, 8, 9, 10, 11, 12, 13, 14] [] (α := Nat) (fun k => [(7, T.i (k : Int))]) (fun k => []) (fun k => k ≤ l.length ∧ firstE l = firstE (l.drop k)) (fun k => l.length - k) 0 ⟨Nat.zero_le _, rfl⟩ ?_ ?_
 · exact le_head (ms := []) (by repeat (exact Out.refl _)) ⟨(by rfl), trivial⟩ trivial rfl rfl rfl rfl
 ·
  intro k ⟨hk, hf⟩
  refine awp_seq ?_
  refine awp_region 1 mixed (by kernel_rfl) ?_
  refine rg_q (q_lss rfl rfl) ?_
  refine rg_nil (aops_nil ?_)
  change Awp _ _ _ _ _
  refine awp_seq ?_
  refine awp_cond rfl (fun hc2 => ?_) (fun hc2 => ?_)
  ·
   (try simp only [nb, ne_eq] at hc2)
   have hlt : k < l.length := by omega
   have hx := List.getElem?_eq_getElem hlt
   have hd : firstE (l.drop k) = if l[k] = 0 then firstE (l.drop (k + 1)) else l[k] := by rw [List.drop_eq_getElem_cons hlt]; rfl
   generalize l[k] = x at *
   refine awp_skip ?_
   change Awp _ _ _ _ _
   refine awp_seq ?_
   refine awp_block ?_
   refine awp_seq ?_
   refine awp_region 3 mixed (by kernel_rfl) ?_
   refine rg_q (q_indexAddr sl282 rfl rfl (by omega) (map_at (by omega) hx)) ?_
   refine rg_q (q_load sz40 rfl rfl) (rg_q (q_assign (x := .d (.v _)) rfl) ?_)
   refine rg_nil (aops_nil ?_)
   change Awp _ _ _ _ _
   refine awp_seq ?_
   refine awp_region 2 mixed (by kernel_rfl) ?_
   refine rg_q (q_move (x := .d (.v _)) rfl) (rg_q (q_neq rfl rfl) ?_)
   refine rg_nil (aops_nil ?_)
   change Awp _ _ _ _ _
   refine awp_cond rfl (fun hc4 => ?_) (fun hc4 => ?_)
   ·
    (try simp only [nb, ne_eq] at hc4)
    refine awp_seq ?_
    refine awp_region 2 mixed (by kernel_rfl) ?_
    refine rg_q (q_move (x := .d (.v _)) rfl) (rg_q (q_assign (x := .d (.v _)) rfl) ?_)
    refine rg_nil (aops_nil ?_)
    change Awp _ _ _ _ _
    refine awp_ret ?_
    refine ⟨_, (.cons (.tmp (by exact .d _)) .nil), ?_⟩
    rw [hf, hd, if_neg hc4]; rfl
   ·
    (try simp only [nb, ne_eq] at hc4)
    refine awp_skip ?_
    change Awp _ _ _ _ _
    refine awp_region 2 mixed (by kernel_rfl) ?_
    refine rg_q (q_add rfl rfl (In64.mk (by omega) (by omega))) ?_
    refine rg_q (q_move (x := .d (.v _)) rfl) ?_
    refine rg_nil (aops_nil ?_)
    refine ⟨k + 1, ⟨by omega, by rw [hf, hd, if_pos hc4]⟩, by omega, ?_⟩
    exact le_head (ms := []) (by repeat (first | exact Out.head rfl rfl | (refine Out.put ?_ rfl))) ⟨(by rfl), trivial⟩ trivial rfl rfl rfl rfl
  ·
   (try simp only [nb, ne_eq] at hc2)
   refine awp_exit ?_
   change Awp _ _ _ _ _
   refine awp_seq ?_
   refine awp_region 1 mixed (by kernel_rfl) ?_
   refine rg_q (q_assign (x := .d (.v _)) rfl) ?_
   refine rg_nil (aops_nil ?_)
   change Awp _ _ _ _ _
   refine awp_ret ?_
   refine ⟨_, (.cons (.tmp (by exact .d _)) .nil), ?_⟩
   rw [hf, List.drop_of_length_le (by omega)]; rfl

def whenI (b : Bool) (e : Int) : Int := if b = true then e else 0
theorem when_must (b : Bool) (e : Int) : whenI (!b) e = mustI b e := by cases b <;> rfl
theorem when_zero {b : Bool} {e : Int} (he : e ≠ 0) : whenI b e = 0 ↔ b = false := by unfold whenI; cases b <;> simp_all
set_option maxRecDepth 100000 in
theorem when_p (b : Bool) (e : Int) : PC Tryz.prog 163 [.v (.bool (b)), .v (.int .i64 (e))] (.v (.int .i64 (whenI b e))) := by
 refine pc_of_awp Tryz.func163 rfl Tryz.ntmps163 (rs := [.tmp 4]) Tryz.results163 (by simp) fun w0 => ?_
 refine awp_seq ?_
 refine awp_region 1 mixed (by kernel_rfl) ?_
 refine rg_q (q_assign (x := .d (.v _)) rfl) ?_
 refine rg_nil (aops_nil ?_)
 change Awp _ _ _ _ _
 refine awp_seq ?_
 refine awp_seq ?_
 refine awp_region 1 mixed (by kernel_rfl) ?_
 refine rg_q (q_move (x := .d (.v _)) rfl) ?_
 refine rg_nil (aops_nil ?_)
 change Awp _ _ _ _ _
 refine awp_cond rfl (fun hc1 => ?_) (fun hc1 => ?_)
 ·
  (try simp only [nb, ne_eq] at hc1)
  have hz : whenI b e = e := by unfold whenI; rw [if_pos hc1]
  refine awp_seq ?_
  refine awp_region 2 mixed (by kernel_rfl) ?_
  refine rg_q (q_move (x := .d (.v _)) rfl) (rg_q (q_assign (x := .d (.v _)) rfl) ?_)
  refine rg_nil (aops_nil ?_)
  change Awp _ _ _ _ _
  refine awp_ret ?_
  refine ⟨_, (.cons (.tmp (by exact .d _)) .nil), ?_⟩
  rw [hz]; rfl
 ·
  (try simp only [nb, ne_eq] at hc1)
  have hz : whenI b e = 0 := by unfold whenI; rw [if_neg (by simpa using hc1)]
  refine awp_skip ?_
  change Awp _ _ _ _ _
  refine awp_seq ?_
  refine awp_region 1 mixed (by kernel_rfl) ?_
  refine rg_q (q_assign (x := .d (.v _)) rfl) ?_
  refine rg_nil (aops_nil ?_)
  change Awp _ _ _ _ _
  refine awp_ret ?_
  refine ⟨_, (.cons (.tmp (by exact .d _)) .nil), ?_⟩
  rw [hz]; rfl

theorem not_and_or (a b : Bool) : ((!a) || !b) = !(a && b) := by cases a <;> cases b <;> rfl
set_option maxRecDepth 100000 in
theorem bspotErr_p (p : Int × Int) : PC Tryz.prog 162 [.agg (shC p)] (.v (.int .i64 (spotE p))) := by
 refine pc_of_awp Tryz.func162 rfl Tryz.ntmps162 (rs := [.tmp 2]) Tryz.results162 (by simp) fun w0 => ?_
 refine awp_seq ?_
 refine awp_region 2 mixed (by kernel_rfl) ?_
 refine rg_q (q_box rfl (by exact .inr ⟨_, rfl⟩)) ?_
 refine rg_q (q_assign (x := .d (.v _)) rfl) ?_
 refine rg_nil (aops_nil ?_)
 change Awp _ _ _ _ _
 refine awp_seq ?_
 refine awp_region 12 mixed (by kernel_rfl) ?_
 refine rg_q (q_fieldAddr fld33_0 rfl) (rg_q (q_load sz3 rfl rfl) ?_)
 refine rg_q (q_call en218 (.cons rfl (.cons rfl .nil)) rfl (bsmall_p _ _ (by omega) (by omega))) ?_
 refine rg_q (q_not rfl) (rg_q (q_move (x := .d (.v _)) rfl) ?_)
 refine rg_g rfl rfl (fun hG => (q_fieldAddr fld33_1 rfl)) ?_
 refine rg_g rfl rfl (fun hG => (q_load sz3 rfl rfl)) ?_
 refine rg_g rfl rfl (fun hG => (q_call en218 (.cons rfl (.cons rfl .nil)) rfl (bsmall_p _ _ (by omega) (by omega)))) ?_
 refine rg_g rfl rfl (fun hG => (q_not rfl)) ?_
 refine rg_pick rfl rfl rfl rfl rfl rfl ?_
 refine rg_q (q_call en163 (.cons rfl (.cons rfl .nil)) rfl (when_p _ _)) ?_
 refine rg_q (q_assign (x := .d (.v _)) rfl) ?_
 refine rg_nil (aops_nil ?_)
 change Awp _ _ _ _ _
 refine awp_ret ?_
 refine ⟨_, (.cons (.tmp (by exact .d _)) .nil), ?_⟩
 unfold spotE spotB; rw [← when_must]; simp only [bif_and, bif_or, ← not_and_or]; rfl

def plateE (z t : Int) : Int := mustI (inR 1 z (t - 1)) 22
def sampE (s : Int × Int) : Int := if (inR 0 s.1 1000000000000 && inR 1 s.2 100000000) = true then 0 else 2
set_option maxRecDepth 100000 in
theorem plateErr_p (p : Int × Int) (t : Int) (h1 : 2 ≤ t) (h2 : t ≤ 20000) : PC Tryz.prog 261 [.agg (shC p), .v (.int .i64 (t))] (.v (.int .i64 (plateE p.2 t))) := by
 refine pc_of_awp Tryz.func261 rfl Tryz.ntmps261 (rs := [.tmp 4]) Tryz.results261 (by simp) fun w0 => ?_
 refine awp_seq ?_
 refine awp_region 2 mixed (by kernel_rfl) ?_
 refine rg_q (q_box rfl (by exact .inr ⟨_, rfl⟩)) ?_
 refine rg_q (q_assign (x := .d (.v _)) rfl) ?_
 refine rg_nil (aops_nil ?_)
 change Awp _ _ _ _ _
 refine awp_seq ?_
 refine awp_region 8 mixed (by kernel_rfl) ?_
 refine rg_q (q_fieldAddr fld33_1 rfl) (rg_q (q_load sz3 rfl rfl) (rg_q (q_move (x := .d (.v _)) rfl) ?_))
 refine rg_q (q_sub rfl rfl (In64.mk (by omega) (by omega))) ?_
 refine rg_q (q_call en256 (.cons rfl (.cons rfl (.cons rfl .nil))) rfl (bwithin_p _ _ _)) ?_
 refine rg_q (q_not rfl) ?_
 refine rg_q (q_call en163 (.cons rfl (.cons rfl .nil)) rfl (when_p _ _)) ?_
 refine rg_q (q_assign (x := .d (.v _)) rfl) ?_
 refine rg_nil (aops_nil ?_)
 change Awp _ _ _ _ _
 refine awp_ret ?_
 refine ⟨_, (.cons (.tmp (by exact .d _)) .nil), ?_⟩
 unfold plateE; rw [← when_must]; rfl
set_option maxRecDepth 100000 in
theorem checkSampling_p (s : Int × Int) : PC Tryz.prog 164 [.agg (shC s)] (.v (.int .i64 (sampE s))) := by
 refine pc_of_awp Tryz.func164 rfl Tryz.ntmps164 (rs := [.tmp 2]) Tryz.results164 (by simp) fun w0 => ?_
 refine awp_seq ?_
 refine awp_region 2 mixed (by kernel_rfl) ?_
 refine rg_q (q_box rfl (by exact .inr ⟨_, rfl⟩)) ?_
 refine rg_q (q_assign (x := .d (.v _)) rfl) ?_
 refine rg_nil (aops_nil ?_)
 change Awp _ _ _ _ _
 refine awp_seq ?_
 refine awp_seq ?_
 refine awp_region 10 mixed (by kernel_rfl) ?_
 refine rg_q (q_fieldAddr fld26_0 rfl) (rg_q (q_load sz3 rfl rfl) ?_)
 refine rg_q (q_call en155 (.cons rfl (.cons rfl (.cons rfl .nil))) rfl (twithin_p _ _ _)) ?_
 refine rg_q (q_not rfl) (rg_q (q_move (x := .d (.v _)) rfl) ?_)
 refine rg_g rfl rfl (fun hG => (q_fieldAddr fld26_1 rfl)) ?_
 refine rg_g rfl rfl (fun hG => (q_load sz3 rfl rfl)) ?_
 refine rg_g rfl rfl (fun hG => (q_call en155 (.cons rfl (.cons rfl (.cons rfl .nil))) rfl (twithin_p _ _ _))) ?_
 refine rg_g rfl rfl (fun hG => (q_not rfl)) ?_
 refine rg_pick rfl rfl rfl rfl rfl rfl ?_
 refine rg_nil (aops_nil ?_)
 change Awp _ _ _ _ _
 refine awp_cond rfl (fun hc1 => ?_) (fun hc1 => ?_)
 ·
  (try simp only [nb, ne_eq] at hc1)
  have hz : sampE s = 2 := by unfold sampE; rw [if_neg (by intro h; simp_all)]
  refine awp_seq ?_
  refine awp_region 1 mixed (by kernel_rfl) ?_
  refine rg_q (q_assign (x := .d (.v _)) rfl) ?_
  refine rg_nil (aops_nil ?_)
  change Awp _ _ _ _ _
  refine awp_ret ?_
  refine ⟨_, (.cons (.tmp (by exact .d _)) .nil), ?_⟩
  rw [hz]; rfl
 ·
  (try simp only [nb, ne_eq] at hc1)
  have hz : sampE s = 0 := by unfold sampE; rw [if_pos (by simp_all)]
  refine awp_skip ?_
  change Awp _ _ _ _ _
  refine awp_seq ?_
  refine awp_region 1 mixed (by kernel_rfl) ?_
  refine rg_q (q_assign (x := .d (.v _)) rfl) ?_
  refine rg_nil (aops_nil ?_)
  change Awp _ _ _ _ _
  refine awp_ret ?_
  refine ⟨_, (.cons (.tmp (by exact .d _)) .nil), ?_⟩
  rw [hz]; rfl

def rndI (n b : Int) : Int := (2 * n + b) / (2 * b)
structure Arr where
  el : List (Int × Int)
  ou : Md
  ba : Md
  ts : Int × Int
def arrC (a : Arr) : List D := [.sl 2 (a.el.map shC), .v (.int .i64 a.ou.w), .v (.int .i64 a.ou.m), .v (.int .i64 a.ou.k), .v (.int .i64 a.ou.t), .v (.int .i64 a.ba.w), .v (.int .i64 a.ba.m), .v (.int .i64 a.ba.k), .v (.int .i64 a.ba.t), .v (.int .i64 a.ts.1), .v (.int .i64 a.ts.2)]
def elE (p : Int × Int) : Int := firstE [spotE p, whenI (decide (0 ≤ p.2)) 15]
def ckEls : Nat → List (Int × Int) → Int × Int
  | _, [] => (0, 0)
  | i, p :: ps => if elE p ≠ 0 then (i, elE p) else ckEls (i + 1) ps
def arrE0 (a : Arr) : Int := firstE [modeE a.ou, modeE a.ba, whenI (decide (a.ou.t ≠ a.ba.t)) 23, sampE a.ts]
def ckArr (a : Arr) : Int × Int := if a.el.length = 0 then (0, 10) else if 16 < a.el.length then (0, 8) else if (ckEls 0 a.el).2 ≠ 0 then ckEls 0 a.el else (0, arrE0 a)
theorem ckEls_at {l : List (Int × Int)} {k : Nat} {x : Int × Int} (hx : l[k]? = some x) : ckEls k (l.drop k) = if elE x ≠ 0 then ((k : Int), elE x) else ckEls (k + 1) (l.drop (k + 1)) := by
  obtain ⟨hlt, rfl⟩ := List.getElem?_eq_some_iff.1 hx
  rw [List.drop_eq_getElem_cons hlt]; rfl
theorem ckEls_ok : ∀ {l : List (Int × Int)} {i : Nat}, (ckEls i l).2 = 0 → ∀ p ∈ l, elE p = 0
  | [], _, _, p, hp => by cases hp
  | q :: l, i, h, p, hp => by
    unfold ckEls at h
    by_cases h1 : elE q ≠ 0
    · rw [if_pos h1] at h; exact absurd h h1
    · rw [if_neg h1] at h
      rcases List.mem_cons.1 hp with rfl | hp
      · exact Decidable.not_not.1 h1
      · exact ckEls_ok h p hp
structure ArrOk (a : Arr) : Prop where
  n1 : 1 ≤ a.el.length
  n2 : a.el.length ≤ 16
  el : ∀ p ∈ a.el, (-100000 ≤ p.1 ∧ p.1 ≤ 100000) ∧ -100000 ≤ p.2 ∧ p.2 < 0
  ou : MdOk a.ou
  ba : MdOk a.ba
  th : a.ou.t = a.ba.t
  t1 : 0 ≤ a.ts.1
  t2 : a.ts.1 ≤ 1000000000000
  t3 : 1 ≤ a.ts.2
  t4 : a.ts.2 ≤ 100000000
theorem elE_ok {p : Int × Int} (h : elE p = 0) : (-100000 ≤ p.1 ∧ p.1 ≤ 100000) ∧ -100000 ≤ p.2 ∧ p.2 < 0 := by
  unfold elE at h
  rw [first_zero] at h
  simp only [List.mem_cons, List.not_mem_nil, or_false, forall_eq_or_imp, forall_eq, spot_ok, when_zero (show (15 : Int) ≠ 0 by omega), decide_eq_false_iff_not] at h
  omega
theorem ckArr_ok {a : Arr} (h : (ckArr a).2 = 0) : ArrOk a ∧ ckArr a = (0, 0) := by
  unfold ckArr at h ⊢
  by_cases h1 : a.el.length = 0
  · rw [if_pos h1] at h; simp at h
  by_cases h2 : 16 < a.el.length
  · rw [if_neg h1, if_pos h2] at h; simp at h
  by_cases h3 : (ckEls 0 a.el).2 ≠ 0
  · rw [if_neg h1, if_neg h2, if_pos h3] at h; exact absurd h h3
  rw [if_neg h1, if_neg h2, if_neg h3] at h ⊢
  simp only at h
  have h4 := h
  unfold arrE0 at h4
  rw [first_zero] at h4
  simp only [List.mem_cons, List.not_mem_nil, or_false, forall_eq_or_imp, forall_eq, mode_ok, when_zero (show (23 : Int) ≠ 0 by omega), decide_eq_false_iff_not, Decidable.not_not] at h4
  obtain ⟨k1, k2, k3, k4⟩ := h4
  have k5 : inR 0 a.ts.1 1000000000000 && inR 1 a.ts.2 100000000 := by
    unfold sampE at k4
    split at k4
    · assumption
    · cases k4
  simp [inR] at k5
  refine ⟨⟨by omega, by omega, fun p hp => elE_ok (ckEls_ok (Decidable.not_not.1 h3) p hp), k1, k2, k3, k5.1.1, k5.1.2, k5.2.1, k5.2.2⟩, by rw [h]⟩
set_option maxRecDepth 100000 in
theorem checkArray_p (a : Arr) : PC Tryz.prog 85 [.agg (arrC a)] (.tup [.v (.int .i64 ((ckArr a).1)), .v (.int .i64 ((ckArr a).2))]) := by
 refine pc_of_awp Tryz.func85 rfl Tryz.ntmps85 (rs := [.tmp 2, .tmp 3]) Tryz.results85 (by simp) fun w0 => ?_
 refine awp_seq ?_
 refine awp_region 3 mixed (by kernel_rfl) ?_
 refine rg_q (q_box rfl (by exact .inr ⟨_, rfl⟩)) ?_
 refine rg_q (q_assign (x := .d (.v _)) rfl) (rg_q (q_assign (x := .d (.v _)) rfl) ?_)
 refine rg_nil (aops_nil ?_)
 change Awp _ _ _ _ _
 refine awp_seq ?_
 refine awp_block ?_
 refine awp_seq ?_
 refine awp_region 5 mixed (by kernel_rfl) ?_
 refine rg_q (q_fieldAddr fld28_0 rfl) (rg_q (q_load sz22 rfl rfl) ?_)
 refine rg_q (q_len isl22 rfl (by exact len_map _ _)) ?_
 refine rg_q (q_eql rfl rfl) (rg_q (q_assign (x := .d (.v _)) rfl) ?_)
 refine rg_nil (aops_nil ?_)
 change Awp _ _ _ _ _
 refine awp_len (t := 9) rfl (fun hl9 => ?_)
 (try simp only [List.length_map] at hl9)
 refine awp_cond rfl (fun hc1 => ?_) (fun hc1 => ?_)
 ·
  (try simp only [nb, ne_eq] at hc1)
  have hz : ckArr a = (0, 10) := by unfold ckArr; rw [if_pos (by omega)]
  refine awp_seq ?_
  refine awp_region 2 mixed (by kernel_rfl) ?_
  refine rg_q (q_assign (x := .d (.v _)) rfl) (rg_q (q_assign (x := .d (.v _)) rfl) ?_)
  refine rg_nil (aops_nil ?_)
  change Awp _ _ _ _ _
  refine awp_ret ?_
  refine ⟨_, (.cons (.tmp (by exact .d _)) (.cons (.tmp (by exact .d _)) .nil)), ?_⟩
  rw [hz]; rfl
 ·
  (try simp only [nb, ne_eq] at hc1)
  refine awp_seq ?_
  refine awp_region 5 mixed (by kernel_rfl) ?_
  refine rg_q (q_fieldAddr fld28_0 rfl) (rg_q (q_load sz22 rfl rfl) ?_)
  refine rg_q (q_len isl22 rfl (by exact len_map _ _)) ?_
  refine rg_q (q_gtr rfl rfl) (rg_q (q_assign (x := .d (.v _)) rfl) ?_)
  refine rg_nil (aops_nil ?_)
  change Awp _ _ _ _ _
  refine awp_len (t := 14) rfl (fun hl14 => ?_)
  (try simp only [List.length_map] at hl14)
  refine awp_cond rfl (fun hc3 => ?_) (fun hc3 => ?_)
  ·
   (try simp only [nb, ne_eq] at hc3)
   have hz : ckArr a = (0, 8) := by unfold ckArr; rw [if_neg (by omega), if_pos (by omega)]
   refine awp_seq ?_
   refine awp_region 2 mixed (by kernel_rfl) ?_
   refine rg_q (q_assign (x := .d (.v _)) rfl) (rg_q (q_assign (x := .d (.v _)) rfl) ?_)
   refine rg_nil (aops_nil ?_)
   change Awp _ _ _ _ _
   refine awp_ret ?_
   refine ⟨_, (.cons (.tmp (by exact .d _)) (.cons (.tmp (by exact .d _)) .nil)), ?_⟩
   rw [hz]; rfl
  ·
   (try simp only [nb, ne_eq] at hc3)
   have hz : ckArr a = if (ckEls 0 a.el).2 ≠ 0 then ckEls 0 a.el else (0, arrE0 a) := by unfold ckArr; rw [if_neg (by omega), if_neg (by omega)]
   refine awp_skip ?_
   change Awp _ _ _ _ _
   refine awp_seq ?_
   refine awp_seq ?_
   refine awp_region 4 mixed (by kernel_rfl) ?_
   refine rg_q (q_fieldAddr fld28_0 rfl) (rg_q (q_load sz22 rfl rfl) ?_)
   refine rg_q (q_len isl22 rfl (by exact len_map _ _)) ?_
   refine rg_q (q_move (x := .d (.v _)) rfl) ?_
   refine rg_nil (aops_nil ?_)
   change Awp _ _ _ _ _
   refine awp_len (t := 18) rfl (fun hl18 => ?_)
   (try simp only [List.length_map] at hl18)
   refine awp_block ?_
   refine awp_loopH [2, 3, 4, 5, 6, 20, 21, 22, 23, 24, 25, 26, 27, 28, 29, 30, 31, 32, 33, 34, 35, 36, 37] [] (α := Nat) (fun k => [(20, T.i (k : Int))]) (fun k => []) (fun k => k ≤ a.el.length ∧ ckEls 0 a.el = ckEls k (a.el.drop k)) (fun k => a.el.length - k) 0 ⟨Nat.zero_le _, rfl⟩ ?_ ?_
   · exact le_head (ms := []) (by repeat (exact Out.refl _)) ⟨(by rfl), trivial⟩ trivial rfl rfl rfl rfl
   ·
    intro k ⟨hk, hf⟩
    refine awp_seq ?_
    refine awp_region 1 mixed (by kernel_rfl) ?_
    refine rg_q (q_lss rfl rfl) ?_
    refine rg_nil (aops_nil ?_)
    change Awp _ _ _ _ _
    refine awp_seq ?_
    refine awp_cond rfl (fun hc6 => ?_) (fun hc6 => ?_)
    ·
     (try simp only [nb, ne_eq] at hc6)
     have hlt : k < a.el.length := by omega
     obtain ⟨x, hx⟩ : ∃ x, a.el[k]? = some x := ⟨_, List.getElem?_eq_getElem hlt⟩
     have hd := ckEls_at hx
     refine awp_skip ?_
     change Awp _ _ _ _ _
     refine awp_seq ?_
     refine awp_block ?_
     refine awp_seq ?_
     refine awp_region 3 mixed (by kernel_rfl) ?_
     refine rg_q (q_move (x := .d (.v _)) rfl) ?_
     refine rg_q (q_indexAddr sl22 rfl rfl (by omega) (map_at (by omega) hx)) ?_
     refine rg_q (q_loadA (ds := [_, _]) sz33 rfl rfl rfl) ?_
     refine rg_nil ?_
     refine aops_alloc zr33 rfl rfl rfl ?_
     refine aops_q rfl (q_assign (x := .d (.v _)) rfl) ?_
     refine aops_store sz33 rfl rfl (by exact .inr ⟨_, rfl⟩) rfl rfl (by decide) rfl ?_
     refine aops_nil ?_
     change Awp _ _ _ _ _
     refine awp_seq ?_
     refine awp_region 9 mixed (by kernel_rfl) ?_
     refine rg_q (q_load_refA (ds := [_, _]) sz33 rfl rfl rfl rfl) ?_
     refine rg_q (q_call en162 (.cons rfl .nil) rfl (bspotErr_p _)) ?_
     refine rg_q (q_fieldAddr_ref fld33_1 rfl) (rg_q (q_load_ref sz3 rfl rfl rfl) (rg_q (q_geq rfl rfl) ?_))
     refine rg_q (q_call en163 (.cons rfl (.cons rfl .nil)) rfl (when_p _ _)) ?_
     refine rg_q (q_buildSlice sl282 zr40 rfl rfl (by decide) (.cons rfl (by exact .inl rfl) (.cons rfl (by exact .inl rfl) .nil)) ⟨rfl, rfl, rfl, rfl, trivial⟩ rfl (by decide) rfl) ?_
     refine rg_q (q_call en161 (.cons rfl .nil) rfl (bfirst_p [_, _])) ?_
     refine rg_q (q_assign (x := .d (.v _)) rfl) ?_
     refine rg_nil (aops_nil ?_)
     change Awp _ _ _ _ _
     refine awp_seq ?_
     refine awp_region 2 mixed (by kernel_rfl) ?_
     refine rg_q (q_move (x := .d (.v _)) rfl) (rg_q (q_neq rfl rfl) ?_)
     refine rg_nil (aops_nil ?_)
     change Awp _ _ _ _ _
     refine awp_cond rfl (fun hc9 => ?_) (fun hc9 => ?_)
     ·
      (try simp only [nb, ne_eq] at hc9)
      have hb : elE x ≠ 0 := hc9
      have hz2 : ckEls 0 a.el = ((k : Int), elE x) := by rw [hf, hd, if_pos hb]
      refine awp_seq ?_
      refine awp_region 4 mixed (by kernel_rfl) ?_
      refine rg_q (q_move (x := .d (.v _)) rfl) (rg_q (q_move (x := .d (.v _)) rfl) (rg_q (q_assign (x := .d (.v _)) rfl) (rg_q (q_assign (x := .d (.v _)) rfl) ?_)))
      refine rg_nil (aops_nil ?_)
      change Awp _ _ _ _ _
      refine awp_ret ?_
      refine ⟨_, (.cons (.tmp (by exact .d _)) (.cons (.tmp (by exact .d _)) .nil)), ?_⟩
      rw [hz, hz2, if_pos hb]; rfl
     ·
      (try simp only [nb, ne_eq] at hc9)
      have hb : elE x = 0 := hc9
      refine awp_skip ?_
      change Awp _ _ _ _ _
      refine awp_region 2 mixed (by kernel_rfl) ?_
      refine rg_q (q_add rfl rfl (In64.mk (by omega) (by omega))) ?_
      refine rg_q (q_move (x := .d (.v _)) rfl) ?_
      refine rg_nil (aops_nil ?_)
      refine ⟨k + 1, ⟨by omega, by rw [hf, hd, if_neg (by rw [hb]; simp)]⟩, by omega, ?_⟩
      exact le_head (ms := []) (by repeat (first | exact Out.head rfl rfl | (refine Out.put ?_ rfl) | (refine Out.site ?_ rfl))) ⟨(by rfl), trivial⟩ trivial rfl rfl rfl rfl
    ·
     (try simp only [nb, ne_eq] at hc6)
     have hk0 : ckEls 0 a.el = (0, 0) := by rw [hf, List.drop_of_length_le (by omega)]; rfl
     refine awp_exit ?_
     change Awp _ _ _ _ _
     refine awp_seq ?_
     refine awp_region 21 mixed (by kernel_rfl) ?_
     refine rg_q (q_fieldAddr fld28_1 rfl) ?_
     refine rg_q (q_loadA (ds := [_, _, _, _]) sz24 rfl rfl rfl) ?_
     refine rg_q (q_call en122 (.cons rfl .nil) rfl (checkMode_p a.ou)) ?_
     refine rg_q (q_fieldAddr fld28_2 rfl) ?_
     refine rg_q (q_loadA (ds := [_, _, _, _]) sz24 rfl rfl rfl) ?_
     refine rg_q (q_call en122 (.cons rfl .nil) rfl (checkMode_p a.ba)) ?_
     refine rg_q (q_fieldAddr fld28_1 rfl) (rg_q (q_fieldAddr fld24_3 rfl) (rg_q (q_load sz3 rfl rfl) (rg_q (q_fieldAddr fld28_2 rfl) (rg_q (q_fieldAddr fld24_3 rfl) (rg_q (q_load sz3 rfl rfl) ?_)))))
     refine rg_q (q_neq rfl rfl) ?_
     refine rg_q (q_call en163 (.cons rfl (.cons rfl .nil)) rfl (when_p _ _)) ?_
     refine rg_q (q_fieldAddr fld28_3 rfl) ?_
     refine rg_q (q_loadA (ds := [_, _]) sz26 rfl rfl rfl) ?_
     refine rg_q (q_call en164 (.cons rfl .nil) rfl (checkSampling_p a.ts)) ?_
     refine rg_q (q_buildSlice sl282 zr40 rfl rfl (by decide) (.cons rfl (by exact .inl rfl) (.cons rfl (by exact .inl rfl) (.cons rfl (by exact .inl rfl) (.cons rfl (by exact .inl rfl) .nil)))) ⟨rfl, rfl, rfl, rfl, rfl, rfl, rfl, rfl, trivial⟩ rfl (by decide) rfl) ?_
     refine rg_q (q_call en161 (.cons rfl .nil) rfl (bfirst_p [_, _, _, _])) ?_
     refine rg_q (q_assign (x := .d (.v _)) rfl) (rg_q (q_assign (x := .d (.v _)) rfl) ?_)
     refine rg_nil (aops_nil ?_)
     change Awp _ _ _ _ _
     refine awp_ret ?_
     refine ⟨_, (.cons (.tmp (by exact .d _)) (.cons (.tmp (by exact .d _)) .nil)), ?_⟩
     rw [hz, hk0, if_neg (by simp)]; rfl

def pairE (n : Nat) (p : Int × Int) : Int := whenI (!inR 0 p.1 ((n : Int) - 1) || !inR 0 p.2 ((n : Int) - 1)) 6
theorem pair_ok {n : Nat} {p : Int × Int} (h : pairE n p = 0) : (0 ≤ p.1 ∧ p.1 < n) ∧ 0 ≤ p.2 ∧ p.2 < n := by
  unfold pairE at h
  rw [when_zero (by omega)] at h
  simp [inR] at h
  omega
set_option maxRecDepth 100000 in
theorem pairErr_p (a : Arr) (p : Int × Int) (hl : a.el.length ≤ 1000) : PC Tryz.prog 228 [.agg (arrC a), .agg (shC p)] (.v (.int .i64 (pairE a.el.length p))) := by
 refine pc_of_awp Tryz.func228 rfl Tryz.ntmps228 (rs := [.tmp 4]) Tryz.results228 (by simp) fun w0 => ?_
 refine awp_seq ?_
 refine awp_region 3 mixed (by kernel_rfl) ?_
 refine rg_q (q_box rfl (by exact .inr ⟨_, rfl⟩)) ?_
 refine rg_q (q_box rfl (by exact .inr ⟨_, rfl⟩)) ?_
 refine rg_q (q_assign (x := .d (.v _)) rfl) ?_
 refine rg_nil (aops_nil ?_)
 change Awp _ _ _ _ _
 refine awp_seq ?_
 refine awp_region 6 mixed (by kernel_rfl) ?_
 refine rg_q (q_fieldAddr fld242_0 rfl) (rg_q (q_fieldAddr fld28_0 rfl) (rg_q (q_load sz22 rfl rfl) ?_))
 refine rg_q (q_len isl22 rfl (by exact len_map _ _)) ?_
 refine rg_q (q_sub rfl rfl (In64.mk (by omega) (by omega))) ?_
 refine rg_q (q_assign (x := .d (.v _)) rfl) ?_
 refine rg_nil (aops_nil ?_)
 change Awp _ _ _ _ _
 refine awp_len (t := 8) rfl (fun hl8 => ?_)
 (try simp only [List.length_map] at hl8)
 refine awp_seq ?_
 refine awp_region 14 mixed (by kernel_rfl) ?_
 refine rg_q (q_indexAddr_ar ar63 rfl rfl (by omega) (by omega)) ?_
 refine rg_q (q_load sz3 rfl rfl) (rg_q (q_move (x := .d (.v _)) rfl) ?_)
 refine rg_q (q_call en256 (.cons rfl (.cons rfl (.cons rfl .nil))) rfl (bwithin_p _ _ _)) ?_
 refine rg_q (q_not rfl) (rg_q (q_move (x := .d (.v _)) rfl) ?_)
 refine rg_g rfl rfl (fun hG => (q_indexAddr_ar ar63 rfl rfl (by (have hg0 := T.bool_inj (a := _) hG.1; (try simp only [nb, ne_eq] at hg0); omega)) (by (have hg0 := T.bool_inj (a := _) hG.1; (try simp only [nb, ne_eq] at hg0); omega)))) ?_
 refine rg_g rfl rfl (fun hG => (q_load sz3 rfl rfl)) ?_
 refine rg_g rfl rfl (fun hG => (q_move (x := .d (.v _)) rfl)) ?_
 refine rg_g rfl rfl (fun hG => (q_call en256 (.cons rfl (.cons rfl (.cons rfl .nil))) rfl (bwithin_p _ _ _))) ?_
 refine rg_g rfl rfl (fun hG => (q_not rfl)) ?_
 refine rg_pick rfl rfl rfl rfl rfl rfl ?_
 refine rg_q (q_call en163 (.cons rfl (.cons rfl .nil)) rfl (when_p _ _)) ?_
 refine rg_q (q_assign (x := .d (.v _)) rfl) ?_
 refine rg_nil (aops_nil ?_)
 change Awp _ _ _ _ _
 refine awp_ret ?_
 refine ⟨_, (.cons (.tmp (by exact .d _)) .nil), ?_⟩
 unfold pairE; simp only [bif_or]; rfl

def elAt (a : Arr) (i : Int) : Int × Int := a.el.getD i.toNat (0, 0)
def echI (a : Arr) (at_ p : Int × Int) : Int := rtI a.ou (elAt a p.1) at_ + rtI a.ba (elAt a p.2) at_
theorem el_at {a : Arr} {i : Int} (h1 : 0 ≤ i) (h2 : i < a.el.length) : a.el[i.toNat]? = some (elAt a i) := by
  unfold elAt
  rw [List.getD_eq_getElem?_getD, List.getElem?_eq_getElem (by omega)]; rfl
theorem ech_in (a : Arr) (at_ p : Int × Int) : 0 ≤ echI a at_ p ∧ echI a at_ p ≤ 40000000000 := by
  have h1 := rt_in a.ou (elAt a p.1) at_
  have h2 := rt_in a.ba (elAt a p.2) at_
  unfold echI; omega
set_option maxRecDepth 100000 in
theorem echo_p (a : Arr) (t p : Int × Int) (hp : (0 ≤ p.1 ∧ p.1 < a.el.length) ∧ 0 ≤ p.2 ∧ p.2 < a.el.length) : PC Tryz.prog 243 [.agg (arrC a), .agg (shC t), .agg (shC p)] (.v (.int .i64 (echI a t p))) := by
 obtain ⟨⟨p1, p2⟩, p3, p4⟩ := hp
 have hx := el_at p1 p2
 have hy := el_at p3 p4
 have r1 := rt_in a.ou (elAt a p.1) t
 have r2 := rt_in a.ba (elAt a p.2) t
 have e1 : ((p.1.toNat : Nat) : Int) = p.1 := by omega
 have e2 : ((p.2.toNat : Nat) : Int) = p.2 := by omega
 refine pc_of_awp Tryz.func243 rfl Tryz.ntmps243 (rs := [.tmp 6]) Tryz.results243 (by simp) fun w0 => ?_
 refine awp_seq ?_
 refine awp_region 4 mixed (by kernel_rfl) ?_
 refine rg_q (q_box rfl (by exact .inr ⟨_, rfl⟩)) ?_
 refine rg_q (q_box rfl (by exact .inr ⟨_, rfl⟩)) ?_
 refine rg_q (q_box rfl (by exact .inr ⟨_, rfl⟩)) ?_
 refine rg_q (q_assign (x := .d (.v _)) rfl) ?_
 refine rg_nil (aops_nil ?_)
 change Awp _ _ _ _ _
 refine awp_seq ?_
 refine awp_region 17 mixed (by kernel_rfl) ?_
 refine rg_q (q_fieldAddr fld242_0 rfl) (rg_q (q_fieldAddr fld28_1 rfl) ?_)
 refine rg_q (q_loadA (ds := [_, _, _, _]) sz24 rfl rfl rfl) ?_
 refine rg_q (q_fieldAddr fld242_0 rfl) (rg_q (q_fieldAddr fld28_0 rfl) (rg_q (q_load sz22 rfl rfl) ?_))
 refine rg_q (q_indexAddr_ar ar63 rfl rfl (by omega) (by omega)) ?_
 refine rg_q (q_load sz3 rfl rfl) ?_
 refine rg_q (q_indexAddr sl22 rfl rfl (by omega) (map_at (k := p.1.toNat) (by omega) hx)) ?_
 refine rg_q (q_loadA (ds := [_, _]) sz33 rfl rfl rfl) ?_
 refine rg_q (q_loadA (ds := [_, _]) sz33 rfl rfl rfl) ?_
 refine rg_q (q_call en274 (.cons rfl (.cons rfl (.cons rfl .nil))) rfl (roundedTime_p a.ou (elAt a p.1) t)) ?_
 refine rg_q (q_move (x := .d (.tup _)) rfl) (rg_q (q_extract rfl rfl) (rg_q (q_extract rfl rfl) (rg_q (q_assign (x := .d (.v _)) rfl) (rg_q (q_assign (x := .d (.v _)) rfl) ?_))))
 refine rg_nil (aops_nil ?_)
 change Awp _ _ _ _ _
 refine awp_seq ?_
 refine awp_region 17 mixed (by kernel_rfl) ?_
 refine rg_q (q_fieldAddr fld242_0 rfl) (rg_q (q_fieldAddr fld28_2 rfl) ?_)
 refine rg_q (q_loadA (ds := [_, _, _, _]) sz24 rfl rfl rfl) ?_
 refine rg_q (q_fieldAddr fld242_0 rfl) (rg_q (q_fieldAddr fld28_0 rfl) (rg_q (q_load sz22 rfl rfl) ?_))
 refine rg_q (q_indexAddr_ar ar63 rfl rfl (by omega) (by omega)) ?_
 refine rg_q (q_load sz3 rfl rfl) ?_
 refine rg_q (q_indexAddr sl22 rfl rfl (by omega) (map_at (k := p.2.toNat) (by omega) hy)) ?_
 refine rg_q (q_loadA (ds := [_, _]) sz33 rfl rfl rfl) ?_
 refine rg_q (q_loadA (ds := [_, _]) sz33 rfl rfl rfl) ?_
 refine rg_q (q_call en274 (.cons rfl (.cons rfl (.cons rfl .nil))) rfl (roundedTime_p a.ba (elAt a p.2) t)) ?_
 refine rg_q (q_move (x := .d (.tup _)) rfl) (rg_q (q_extract rfl rfl) (rg_q (q_extract rfl rfl) (rg_q (q_assign (x := .d (.v _)) rfl) (rg_q (q_assign (x := .d (.v _)) rfl) ?_))))
 refine rg_nil (aops_nil ?_)
 change Awp _ _ _ _ _
 refine awp_seq ?_
 refine awp_region 4 mixed (by kernel_rfl) ?_
 refine rg_q (q_move (x := .d (.v _)) rfl) (rg_q (q_move (x := .d (.v _)) rfl) ?_)
 refine rg_q (q_add rfl rfl (In64.mk (by omega) (by omega))) ?_
 refine rg_q (q_assign (x := .d (.v _)) rfl) ?_
 refine rg_nil (aops_nil ?_)
 change Awp _ _ _ _ _
 refine awp_ret ?_
 refine ⟨_, (.cons (.tmp (by exact .d _)) .nil), ?_⟩
 rfl

def smpI (a : Arr) (t p : Int × Int) : Int := rndI (echI a t p - a.ts.1) a.ts.2
def opE (a : Arr) (t p : Int × Int) : Int := if (ckArr a).2 ≠ 0 then (ckArr a).2 else firstE [spotE t, plateE t.2 a.ou.t, pairE a.el.length p]
theorem op_ok {a : Arr} {t p : Int × Int} (h : opE a t p = 0) : ArrOk a ∧ ((0 ≤ p.1 ∧ p.1 < a.el.length) ∧ 0 ≤ p.2 ∧ p.2 < a.el.length) ∧ spotE t = 0 ∧ plateE t.2 a.ou.t = 0 := by
  unfold opE at h
  by_cases h1 : (ckArr a).2 ≠ 0
  · rw [if_pos h1] at h; exact absurd h h1
  rw [if_neg h1, first_zero] at h
  simp only [List.mem_cons, List.not_mem_nil, or_false, forall_eq_or_imp, forall_eq] at h
  exact ⟨(ckArr_ok (Decidable.not_not.1 h1)).1, pair_ok h.2.2, h.1, h.2.1⟩
set_option maxRecDepth 100000 in
theorem bopen_p (a : Arr) (t p : Int × Int) : PC Tryz.prog 229 [.agg (arrC a), .agg (shC t), .agg (shC p)] (.tup [.agg (arrC a), .v (.int .i64 (opE a t p))]) := by
 refine pc_of_awp Tryz.func229 rfl Tryz.ntmps229 (rs := [.cell 6 242, .tmp 7]) Tryz.results229 (by simp) fun w0 => ?_
 refine awp_seq ?_
 refine awp_region 3 mixed (by kernel_rfl) ?_
 refine rg_q (q_box rfl (by exact .inr ⟨_, rfl⟩)) ?_
 refine rg_q (q_box rfl (by exact .inr ⟨_, rfl⟩)) ?_
 refine rg_q (q_box rfl (by exact .inr ⟨_, rfl⟩)) ?_
 refine rg_nil ?_
 refine aops_alloc zr242 rfl rfl rfl ?_
 refine aops_q rfl (q_assign (x := .d (.v _)) rfl) ?_
 refine aops_nil ?_
 change Awp _ _ _ _ _
 refine awp_seq ?_
 refine awp_region 2 mixed (by kernel_rfl) ?_
 refine rg_q (q_loadA (ds := [_, _, _, _, _, _, _, _, _, _, _]) sz28 rfl rfl rfl) ?_
 refine rg_q (q_build (cs := [_, _, _, _, _, _, _, _, _, _, _]) pl242 zr242 rfl (.cons rfl (by exact .inr ⟨_, rfl⟩) .nil) ⟨⟨rfl, by decide⟩, trivial⟩ rfl) ?_
 refine rg_nil ?_
 refine aops_alloc zr242 rfl rfl rfl ?_
 refine aops_store sz242 rfl rfl (by exact .inr ⟨_, rfl⟩) rfl rfl (by decide) rfl ?_
 refine aops_nil ?_
 change Awp _ _ _ _ _
 refine awp_seq ?_
 refine awp_seq ?_
 refine awp_region 7 mixed (by kernel_rfl) ?_
 refine rg_q (q_loadA (ds := [_, _, _, _, _, _, _, _, _, _, _]) sz28 rfl rfl rfl) ?_
 refine rg_q (q_call en85 (.cons rfl .nil) rfl (checkArray_p _)) ?_
 refine rg_q (q_move (x := .d (.tup _)) rfl) (rg_q (q_extract rfl rfl) (rg_q (q_extract rfl rfl) (rg_q (q_assign (x := .d (.v _)) rfl) (rg_q (q_assign (x := .d (.v _)) rfl) ?_))))
 refine rg_nil (aops_nil ?_)
 change Awp _ _ _ _ _
 refine awp_seq ?_
 refine awp_region 2 mixed (by kernel_rfl) ?_
 refine rg_q (q_move (x := .d (.v _)) rfl) (rg_q (q_neq rfl rfl) ?_)
 refine rg_nil (aops_nil ?_)
 change Awp _ _ _ _ _
 refine awp_cond rfl (fun hc3 => ?_) (fun hc3 => ?_)
 ·
  (try simp only [nb, ne_eq] at hc3)
  have hz : opE a t p = (ckArr a).2 := by unfold opE; rw [if_pos hc3]
  refine awp_seq ?_
  refine awp_region 2 mixed (by kernel_rfl) ?_
  refine rg_q (q_load_refA (ds := [_, _, _, _, _, _, _, _, _, _, _]) sz242 rfl rfl rfl rfl) ?_
  refine rg_q (q_move (x := .d (.v _)) rfl) ?_
  refine rg_nil ?_
  refine aops_store sz242 rfl rfl (by exact .inr ⟨_, rfl⟩) rfl rfl (by decide) rfl ?_
  refine aops_q rfl (q_assign (x := .d (.v _)) rfl) ?_
  refine aops_nil ?_
  change Awp _ _ _ _ _
  refine awp_ret ?_
  refine ⟨_, (.cons (.cellA rfl rfl sz242 rfl) (.cons (.tmp (by exact .d _)) .nil)), ?_⟩
  rw [hz]; rfl
 ·
  (try simp only [nb, ne_eq] at hc3)
  have hck : (ckArr a).2 = 0 := by simpa using hc3
  have hok := (ckArr_ok hck).1
  have ht1 := hok.ou.t1
  have ht2 := hok.ou.t2
  have hl16 : a.el.length ≤ 1000 := by have := hok.n2; omega
  have hz : opE a t p = firstE [spotE t, plateE t.2 a.ou.t, pairE a.el.length p] := by unfold opE; rw [if_neg (by rw [hck]; simp)]
  refine awp_skip ?_
  change Awp _ _ _ _ _
  refine awp_seq ?_
  refine awp_region 13 mixed (by kernel_rfl) ?_
  refine rg_q (q_load_refA (ds := [_, _, _, _, _, _, _, _, _, _, _]) sz242 rfl rfl rfl rfl) ?_
  refine rg_q (q_loadA (ds := [_, _]) sz33 rfl rfl rfl) ?_
  refine rg_q (q_call en162 (.cons rfl .nil) rfl (bspotErr_p _)) ?_
  refine rg_q (q_loadA (ds := [_, _]) sz33 rfl rfl rfl) ?_
  refine rg_q (q_fieldAddr fld28_1 rfl) (rg_q (q_fieldAddr fld24_3 rfl) (rg_q (q_load sz3 rfl rfl) ?_))
  refine rg_q (q_call en261 (.cons rfl (.cons rfl .nil)) rfl (plateErr_p t a.ou.t ht1 ht2)) ?_
  refine rg_q (q_load_refA (ds := [_, _, _, _, _, _, _, _, _, _, _]) sz242 rfl rfl rfl rfl) ?_
  refine rg_q (q_loadA (ds := [_, _]) sz63 rfl rfl rfl) ?_
  refine rg_q (q_call en228 (.cons rfl (.cons rfl .nil)) rfl (pairErr_p _ _ hl16)) ?_
  refine rg_q (q_buildSlice sl282 zr40 rfl rfl (by decide) (.cons rfl (by exact .inl rfl) (.cons rfl (by exact .inl rfl) (.cons rfl (by exact .inl rfl) .nil))) ⟨rfl, rfl, rfl, rfl, rfl, rfl, trivial⟩ rfl (by decide) rfl) ?_
  refine rg_q (q_call en161 (.cons rfl .nil) rfl (bfirst_p [_, _, _])) ?_
  refine rg_nil ?_
  refine aops_store sz242 rfl rfl (by exact .inr ⟨_, rfl⟩) rfl rfl (by decide) rfl ?_
  refine aops_q rfl (q_assign (x := .d (.v _)) rfl) ?_
  refine aops_nil ?_
  change Awp _ _ _ _ _
  refine awp_ret ?_
  refine ⟨_, (.cons (.cellA rfl rfl sz242 rfl) (.cons (.tmp (by exact .d _)) .nil)), ?_⟩
  rw [hz]; rfl

def echR (a : Arr) (t p : Int × Int) : Int × Int := if opE a t p ≠ 0 then (0, opE a t p) else (echI a t p, 0)
set_option maxRecDepth 100000 in
theorem echoAt_p (a : Arr) (t p : Int × Int) : PC Tryz.prog 178 [.agg (arrC a), .agg (shC t), .agg (shC p)] (.tup [.v (.int .i64 ((echR a t p).1)), .v (.int .i64 ((echR a t p).2))]) := by
 refine pc_of_awp Tryz.func178 rfl Tryz.ntmps178 (rs := [.tmp 6, .tmp 7]) Tryz.results178 (by simp) fun w0 => ?_
 refine awp_seq ?_
 refine awp_region 5 mixed (by kernel_rfl) ?_
 refine rg_q (q_box rfl (by exact .inr ⟨_, rfl⟩)) ?_
 refine rg_q (q_box rfl (by exact .inr ⟨_, rfl⟩)) ?_
 refine rg_q (q_box rfl (by exact .inr ⟨_, rfl⟩)) ?_
 refine rg_q (q_assign (x := .d (.v _)) rfl) (rg_q (q_assign (x := .d (.v _)) rfl) ?_)
 refine rg_nil (aops_nil ?_)
 change Awp _ _ _ _ _
 refine awp_seq ?_
 refine awp_region 7 mixed (by kernel_rfl) ?_
 refine rg_q (q_loadA (ds := [_, _, _, _, _, _, _, _, _, _, _]) sz28 rfl rfl rfl) ?_
 refine rg_q (q_loadA (ds := [_, _]) sz33 rfl rfl rfl) ?_
 refine rg_q (q_loadA (ds := [_, _]) sz63 rfl rfl rfl) ?_
 refine rg_q (q_call en229 (.cons rfl (.cons rfl (.cons rfl .nil))) rfl (bopen_p _ _ _)) ?_
 refine rg_q (q_move (x := .d (.tup _)) rfl) (rg_q (q_extract rfl rfl) (rg_q (q_extract rfl rfl) ?_))
 refine rg_nil ?_
 refine aops_alloc zr242 rfl rfl rfl ?_
 refine aops_store sz242 rfl rfl (by exact .inr ⟨_, rfl⟩) rfl rfl (by decide) rfl ?_
 refine aops_q rfl (q_assign (x := .d (.v _)) rfl) ?_
 refine aops_nil ?_
 change Awp _ _ _ _ _
 refine awp_seq ?_
 refine awp_seq ?_
 refine awp_region 2 mixed (by kernel_rfl) ?_
 refine rg_q (q_move (x := .d (.v _)) rfl) (rg_q (q_neq rfl rfl) ?_)
 refine rg_nil (aops_nil ?_)
 change Awp _ _ _ _ _
 refine awp_cond rfl (fun hc2 => ?_) (fun hc2 => ?_)
 ·
  (try simp only [nb, ne_eq] at hc2)
  have hz : echR a t p = (0, opE a t p) := by unfold echR; rw [if_pos hc2]
  refine awp_seq ?_
  refine awp_region 3 mixed (by kernel_rfl) ?_
  refine rg_q (q_move (x := .d (.v _)) rfl) (rg_q (q_assign (x := .d (.v _)) rfl) (rg_q (q_assign (x := .d (.v _)) rfl) ?_))
  refine rg_nil (aops_nil ?_)
  change Awp _ _ _ _ _
  refine awp_ret ?_
  refine ⟨_, (.cons (.tmp (by exact .d _)) (.cons (.tmp (by exact .d _)) .nil)), ?_⟩
  rw [hz]; rfl
 ·
  (try simp only [nb, ne_eq] at hc2)
  have ho : opE a t p = 0 := by simpa using hc2
  obtain ⟨hok, hpk, _⟩ := op_ok ho
  have hz : echR a t p = (echI a t p, 0) := by unfold echR; rw [if_neg (by rw [ho]; simp)]
  refine awp_skip ?_
  change Awp _ _ _ _ _
  refine awp_seq ?_
  refine awp_region 6 mixed (by kernel_rfl) ?_
  refine rg_q (q_load_refA (ds := [_, _, _, _, _, _, _, _, _, _, _]) sz242 rfl rfl rfl rfl) ?_
  refine rg_q (q_loadA (ds := [_, _]) sz33 rfl rfl rfl) ?_
  refine rg_q (q_loadA (ds := [_, _]) sz63 rfl rfl rfl) ?_
  refine rg_q (q_call en243 (.cons rfl (.cons rfl (.cons rfl .nil))) rfl (echo_p _ _ _ hpk)) ?_
  refine rg_q (q_assign (x := .d (.v _)) rfl) (rg_q (q_assign (x := .d (.v _)) rfl) ?_)
  refine rg_nil (aops_nil ?_)
  change Awp _ _ _ _ _
  refine awp_ret ?_
  refine ⟨_, (.cons (.tmp (by exact .d _)) (.cons (.tmp (by exact .d _)) .nil)), ?_⟩
  rw [hz]; rfl
end Go.Proofs.YtphlaicnmmglhaaGreat.Am.M
