/- Contracts over the abstract machine, joined. Conditions: none. -/
import Derived.Test.YtphlaicnmmglhaaGreatJ4
import Derived.Test.YtphlaicnmmglhaaGreatJ3
set_option linter.unusedVariables false
set_option linter.unusedSimpArgs false
-- mini
namespace Go.Proofs.YtphlaicnmmglhaaGreat.Am.M
open Go

def imC (x : List (Nat × Nat)) : List D := [.sl 1 (x.map cvC)]
def hdN (l : List (List (Nat × Nat))) : Nat := (l.getD 0 []).length
theorem hd_at {l : List (List (Nat × Nat))} (h : 0 < l.length) : l[0]? = some (l.getD 0 []) := by
  rw [List.getD_eq_getElem?_getD, List.getElem?_eq_getElem h]; rfl
def neqB (l : List (List (Nat × Nat))) (x : List (Nat × Nat)) : Bool := decide (x.length ≠ hdN l)
def atZ (x : List (Nat × Nat)) (k : Nat) : Nat × Nat := x.getD k (0, 0)
theorem atZ_at {x : List (Nat × Nat)} {k : Nat} (h : k < x.length) : x[k]? = some (atZ x k) := by
  unfold atZ
  rw [List.getD_eq_getElem?_getD, List.getElem?_eq_getElem h]; rfl
def colZ (l : List (List (Nat × Nat))) (k : Nat) : List (Nat × Nat) := l.map fun x => atZ x k
theorem colZ_len (l : List (List (Nat × Nat))) (k : Nat) : (colZ l k).length = l.length := List.length_map _
theorem colZ_at {l : List (List (Nat × Nat))} {i : Nat} {x : List (Nat × Nat)} (k : Nat) (h : l[i]? = some x) : (colZ l k)[i]? = some (atZ x k) := by unfold colZ; rw [List.getElem?_map, h]; rfl
def peS : List (Nat × Nat) → Int
  | [] => 0
  | z :: r => if peI z ≠ 0 then peI z else peS r
theorem peS_at {c : List (Nat × Nat)} {i : Nat} {z : Nat × Nat} (h : c[i]? = some z) : peS (c.drop i) = if peI z ≠ 0 then peI z else peS (c.drop (i + 1)) := by
  obtain ⟨hlt, rfl⟩ := List.getElem?_eq_some_iff.1 h
  rw [List.drop_eq_getElem_cons hlt]; rfl
def smF (s : Int × Int) (z : Nat × Nat) : Int × Int := (s.1 + (vZ z).1, s.2 + (vZ z).2)
def smS (c : List (Nat × Nat)) : Int × Int := c.foldl smF (0, 0)
theorem smS_snoc {c : List (Nat × Nat)} {i : Nat} {z : Nat × Nat} (h : c[i]? = some z) : smS (c.take (i + 1)) = smF (smS (c.take i)) z := by
  unfold smS
  rw [takeSnoc h, List.foldl_append]; rfl
theorem vZ_in {z : Nat × Nat} (h : peI z = 0) : (-10000000 ≤ (vZ z).1 ∧ (vZ z).1 ≤ 10000000) ∧ -10000000 ≤ (vZ z).2 ∧ (vZ z).2 ≤ 10000000 := by
  obtain ⟨⟨w1, w2⟩, b1, b2⟩ := pe_ok h
  exact ⟨(vD_in w1 b1).1, (vD_in w2 b2).1⟩
theorem smS_in {c : List (Nat × Nat)} : ∀ i : Nat, i ≤ c.length → (∀ z ∈ c.take i, peI z = 0) → (-(10000000 * (i : Int)) ≤ (smS (c.take i)).1 ∧ (smS (c.take i)).1 ≤ 10000000 * (i : Int)) ∧ -(10000000 * (i : Int)) ≤ (smS (c.take i)).2 ∧ (smS (c.take i)).2 ≤ 10000000 * (i : Int)
  | 0, _, _ => by
    have e : smS (c.take 0) = (0, 0) := rfl
    rw [e]
    decide
  | i + 1, hi, h => by
    have hz : c[i]? = some c[i] := List.getElem?_eq_getElem (by omega)
    have h1 := smS_in (c := c) i (by omega) (fun z q => h z (by rw [takeSnoc hz]; exact List.mem_append_left _ q))
    have h2 := vZ_in (h c[i] (by rw [takeSnoc hz]; exact List.mem_append_right _ (List.mem_singleton.2 rfl)))
    rw [smS_snoc hz]
    unfold smF
    simp only
    omega
def mgS (l : List (List (Nat × Nat))) : Nat → Nat → Int
  | _, 0 => 0
  | k, m + 1 => if peS (colZ l k) ≠ 0 then peS (colZ l k) else mgS l (k + 1) m
theorem mgS_at {l : List (List (Nat × Nat))} {k n : Nat} (h : k < n) : mgS l k (n - k) = if peS (colZ l k) ≠ 0 then peS (colZ l k) else mgS l (k + 1) (n - (k + 1)) := by
  obtain ⟨m, hm⟩ : ∃ m, n - k = m + 1 := ⟨n - k - 1, by omega⟩
  rw [hm, show n - (k + 1) = m by omega]; rfl
def smL (l : List (List (Nat × Nat))) (n : Nat) : List (Int × Int) := (List.range n).map fun k => smS (colZ l k)
theorem smL_len (l : List (List (Nat × Nat))) (n : Nat) : (smL l n).length = n := by unfold smL; rw [List.length_map, List.length_range]
def mgR (l : List (List (Nat × Nat))) : List (Nat × Nat) × Int :=
  if (decide (l.length = 0) || l.any (neqB l)) = true then ([], 10)
  else if 16 < l.length ∨ 1600 < hdN l then ([], 8)
  else if mgS l 0 (hdN l) ≠ 0 then ([], mgS l 0 (hdN l))
  else ((smL l (hdN l)).map czP, 0)
def esR (l : List (List (Nat × Nat))) (n k i : Nat) : List (List D) := (List.range n).map fun j => shC (if j < k then smS (colZ l j) else if j = k then smS ((colZ l k).take i) else (0, 0))
theorem esR_len (l : List (List (Nat × Nat))) (n k i : Nat) : (esR l n k i).length = n := by unfold esR; rw [List.length_map, List.length_range]
theorem esR_at {l : List (List (Nat × Nat))} {n k i : Nat} (h : k < n) : (esR l n k i)[k]? = some (shC (smS ((colZ l k).take i))) := by
  unfold esR
  rw [List.getElem?_map, List.getElem?_range h]
  show some (shC _) = _
  rw [if_neg (by omega), if_pos rfl]
theorem esR_set {l : List (List (Nat × Nat))} {n k i : Nat} (h : k < n) {p : Int × Int} (hp : smS ((colZ l k).take (i + 1)) = p) : (esR l n k i).set k (setCs (shC (smS ((colZ l k).take i))) 0 [.v (.int .i64 p.1), .v (.int .i64 p.2)]) = esR l n k (i + 1) := by
  have e : setCs (shC (smS ((colZ l k).take i))) 0 [.v (.int .i64 p.1), .v (.int .i64 p.2)] = shC p := rfl
  rw [e]
  apply List.ext_getElem?
  intro j
  rw [List.getElem?_set]
  by_cases hj : k = j
  · subst hj
    rw [if_pos rfl, if_pos (by rw [esR_len]; exact h), esR_at h, hp]
  · rw [if_neg hj]
    unfold esR
    rw [List.getElem?_map, List.getElem?_map]
    by_cases hjn : j < n
    · rw [List.getElem?_range hjn]
      show some (shC _) = some (shC _)
      rw [if_neg (c := j = k) (fun q => hj q.symm), if_neg (c := j = k) (fun q => hj q.symm)]
    · rw [List.getElem?_eq_none (by rw [List.length_range]; omega)]; rfl
theorem esR_next {l : List (List (Nat × Nat))} {n k : Nat} : esR l n k l.length = esR l n (k + 1) 0 := by
  unfold esR
  refine List.map_congr_left fun j _ => ?_
  congr 1
  by_cases h1 : j < k
  · rw [if_pos h1, if_pos (by omega)]
  · rw [if_neg h1]
    by_cases h2 : j = k
    · subst h2
      rw [if_pos rfl, if_pos (by omega), List.take_of_length_le (by rw [colZ_len]; exact Nat.le_refl _)]
    · rw [if_neg h2, if_neg (by omega)]
      split <;> rfl
theorem esR_zero (l : List (List (Nat × Nat))) (n : Nat) : esR l n 0 0 = List.replicate n (shC (0, 0)) := by
  rw [List.eq_replicate_iff]
  refine ⟨esR_len _ _ _ _, fun b hb => ?_⟩
  unfold esR at hb
  obtain ⟨j, _, rfl⟩ := List.mem_map.1 hb
  rw [if_neg (by omega)]
  split <;> rfl
theorem esR_all (l : List (List (Nat × Nat))) (n : Nat) : esR l n n 0 = (smL l n).map shC := by
  unfold esR smL
  rw [List.map_map]
  refine List.map_congr_left fun j hj => ?_
  have := List.mem_range.1 hj
  rw [if_pos this]; rfl
set_option maxRecDepth 100000 in
theorem merged1_p (l : List (List (Nat × Nat))) (x : List (Nat × Nat)) (hl : 0 < l.length) : PC Tryz.prog 131 [.sl 1 (x.map cvC), .pt [.sl 1 (l.map imC)] 0] (.v (.bool (neqB l x))) := by
 have hx0 := hd_at hl
 refine pc_of_awpN Tryz.func131 rfl Tryz.ntmps131 (rs := [.tmp 3]) Tryz.results131 (by simp) fun w0 hmine hrnd hpn => ?_
 refine awp_seq ?_
 refine awp_region 1 mixed (by kernel_rfl) ?_
 refine rg_q (q_a rfl) ?_
 refine rs (awp_region 8 mixed (by kernel_rfl) ?_)
 refine rg_q (q_move (x := .d (.sl _ _)) rfl) ?_
 refine rg_q (q_len isl72 rfl (by exact len_map _ _)) ?_
 refine rg_q (q_load sz105 rfl rfl) ?_
 refine rg_q (q_indexAddr sl105 rfl rfl (by omega) (map_at (k := 0) (by omega) hx0)) ?_
 refine rg_q (q_load sz72 rfl rfl) ?_
 refine rg_q (q_len isl72 rfl (by exact len_map _ _)) ?_
 refine rg_q (q_neq rfl rfl) (rg_q (q_a rfl) ?_)
 refine rn ?_
 change Awp _ _ _ _ _
 refine awp_len (t := 4) rfl (fun hl4 => ?_)
 (try simp only [List.length_map] at hl4)
 refine awp_len (t := 8) rfl (fun hl8 => ?_)
 (try simp only [List.length_map] at hl8)
 refine awp_ret ?_
 refine ⟨_, (.cons (.tmp (by exact .d _)) .nil), ?_⟩
 show D.v (.bool (neqB l x)) = _
 unfold neqB hdN
 congr 2
 exact decide_eq_decide.2 (by omega)
set_option maxRecDepth 100000 in
theorem indexIm_p (f : List (Nat × Nat) → Bool) (g : FuncId) (cap : List D) (hen : enB Tryz.prog g = true) (l : List (List (Nat × Nat))) (hf : ∀ a ∈ l, PC Tryz.prog g (.sl 1 (a.map cvC) :: cap) (.v (.bool (f a)))) : PC Tryz.prog 195 [.sl 1 (l.map imC), .fn (.func g) cap] (.v (.int .i64 (idxOf f 0 l))) := by
 refine pc_of_awp Tryz.func195 rfl Tryz.ntmps195 (rs := [.tmp 4]) Tryz.results195 (by simp) fun w0 => ?_
 refine awp_seq ?_
 refine awp_region 1 mixed (by kernel_rfl) ?_
 refine rg_q (q_a rfl) ?_
 refine rn ?_
 change Awp _ _ _ _ _
 refine awp_seq ?_
 refine awp_seq ?_
 refine awp_region 3 mixed (by kernel_rfl) ?_
 refine rg_q (q_move (x := .d (.sl _ _)) rfl) ?_
 refine rg_q (q_len isl105 rfl (by exact len_map _ _)) ?_
 refine rg_q (q_m rfl) ?_
 refine rn ?_
 change Awp _ _ _ _ _
 refine awp_len (t := 6) rfl (fun hl6 => ?_)
 (try simp only [List.length_map] at hl6)
 refine awp_block ?_
 refine awp_loopH [4, 5, 8, 9, 10, 11, 12, 13, 14, 15, 16, 17, 18] [] (α := Nat) (fun k => [(8, T.i (k : Int))]) (fun k => []) (fun k => k ≤ l.length ∧ idxOf f 0 l = idxOf f k (l.drop k)) (fun k => l.length - k) 0 ⟨Nat.zero_le _, rfl⟩ ?_ ?_
 · exact le_head (ms := []) (by repeat (exact Out.refl _)) ⟨(by rfl), trivial⟩ trivial rfl rfl rfl rfl
 ·
  intro k ⟨hk, hh⟩
  refine awp_seq ?_
  refine awp_region 1 mixed (by kernel_rfl) ?_
  refine rg_q (q_lss rfl rfl) ?_
  refine rn ?_
  change Awp _ _ _ _ _
  refine awp_seq ?_
  refine awp_cond rfl (fun hc2 => ?_) (fun hc2 => ?_)
  ·
   (try simp only [nb, ne_eq] at hc2)
   have hlt : k < l.length := by omega
   have hx := List.getElem?_eq_getElem hlt
   have hd : idxOf f k (l.drop k) = if f l[k] = true then (k : Int) else idxOf f (k + 1) (l.drop (k + 1)) := by rw [List.drop_eq_getElem_cons hlt]; rfl
   have hfx := hf l[k] (List.getElem_mem hlt)
   generalize l[k] = x at *
   refine awp_skip ?_
   change Awp _ _ _ _ _
   refine awp_seq ?_
   refine awp_block ?_
   refine awp_seq ?_
   refine awp_region 2 mixed (by kernel_rfl) ?_
   refine rg_q (q_m rfl) (rg_q (q_a rfl) ?_)
   refine rs (awp_region 6 mixed (by kernel_rfl) ?_)
   refine rg_q (q_move (x := .d (.fn _ _)) rfl) (rg_q (q_move (x := .d (.sl _ _)) rfl) (rg_q (q_m rfl) ?_))
   refine rg_q (q_indexAddr sl105 rfl rfl (by omega) (map_at (by omega) hx)) ?_
   refine rg_q (q_load sz72 rfl rfl) ?_
   refine rg_q (q_callC hen rfl (.cons rfl .nil) (hfx)) ?_
   refine rn ?_
   change Awp _ _ _ _ _
   refine awp_cond rfl (fun hc4 => ?_) (fun hc4 => ?_)
   ·
    (try simp only [nb, ne_eq] at hc4)
    refine awp_seq ?_
    refine awp_region 2 mixed (by kernel_rfl) ?_
    refine rg_q (q_m rfl) (rg_q (q_a rfl) ?_)
    refine rn ?_
    change Awp _ _ _ _ _
    refine awp_ret ?_
    refine ⟨_, (.cons (.tmp (by exact .d _)) .nil), ?_⟩
    rw [hh, hd, if_pos (by simpa using hc4)]; rfl
   ·
    (try simp only [nb, ne_eq] at hc4)
    refine awp_skip ?_
    change Awp _ _ _ _ _
    refine awp_region 2 mixed (by kernel_rfl) ?_
    refine rg_q (q_add rfl rfl (In64.mk (by omega) (by omega))) ?_
    refine rg_q (q_m rfl) ?_
    refine rn ?_
    refine ⟨k + 1, ⟨by omega, by rw [hh, hd, if_neg (by simpa using hc4)]⟩, by omega, ?_⟩
    exact le_head (ms := []) (by repeat (first | exact Out.head rfl rfl | (refine Out.put ?_ rfl))) ⟨(by rfl), trivial⟩ trivial rfl rfl rfl rfl
  ·
   (try simp only [nb, ne_eq] at hc2)
   refine awp_exit ?_
   change Awp _ _ _ _ _
   refine awp_seq ?_
   refine awp_region 1 mixed (by kernel_rfl) ?_
   refine rg_q (q_a rfl) ?_
   refine rn ?_
   change Awp _ _ _ _ _
   refine awp_ret ?_
   refine ⟨_, (.cons (.tmp (by exact .d _)) .nil), ?_⟩
   rw [hh, List.drop_of_length_le (by omega)]; rfl
set_option maxRecDepth 100000 in
theorem containsIm_p (f : List (Nat × Nat) → Bool) (g : FuncId) (cap : List D) (hen : enB Tryz.prog g = true) (l : List (List (Nat × Nat))) (hf : ∀ a ∈ l, PC Tryz.prog g (.sl 1 (a.map cvC) :: cap) (.v (.bool (f a)))) : PC Tryz.prog 130 [.sl 1 (l.map imC), .fn (.func g) cap] (.v (.bool (l.any f))) := by
 have hm := idxOf_mem f l
 refine pc_of_awp Tryz.func130 rfl Tryz.ntmps130 (rs := [.tmp 4]) Tryz.results130 (by simp) fun w0 => ?_
 refine awp_seq ?_
 refine awp_region 1 mixed (by kernel_rfl) ?_
 refine rg_q (q_a rfl) ?_
 refine rs (awp_region 5 mixed (by kernel_rfl) ?_)
 refine rg_q (q_move (x := .d (.sl _ _)) rfl) (rg_q (q_move (x := .d (.fn _ _)) rfl) ?_)
 refine rg_q (q_call en195 (.cons rfl (.cons rfl .nil)) rfl (indexIm_p f g cap hen l hf)) ?_
 refine rg_q (q_geq rfl rfl) (rg_q (q_a rfl) ?_)
 refine rn ?_
 change Awp _ _ _ _ _
 refine awp_ret ?_
 refine ⟨_, (.cons (.tmp (by exact .d _)) .nil), ?_⟩
 rw [← hm]; rfl
set_option maxHeartbeats 4000000 in
set_option maxRecDepth 100000 in
theorem mergedI_p (l : List (List (Nat × Nat))) : PC Tryz.prog 60 [.sl 1 (l.map imC)] (.tup [.sl 1 ((mgR l).1.map cvC), .v (.int .i64 ((mgR l).2))]) := by
 have hu : mgR l = if (decide (l.length = 0) || l.any (neqB l)) = true then ([], 10)
  else if 16 < l.length ∨ 1600 < hdN l then ([], 8)
  else if mgS l 0 (hdN l) ≠ 0 then ([], mgS l 0 (hdN l))
  else ((smL l (hdN l)).map czP, 0) := rfl
 refine pc_of_awpN Tryz.func60 rfl Tryz.ntmps60 (rs := [.tmp 2, .tmp 3]) Tryz.results60 (by simp) fun w0 hmine hrnd hpn => ?_
 refine awp_seq ?_
 refine awp_region 3 mixed (by kernel_rfl) ?_
 refine rg_q (q_box rfl (by exact .inl rfl)) ?_
 refine rg_q (q_assign (x := .d (.sl _ _)) rfl) (rg_q (q_a rfl) ?_)
 refine rn ?_
 change Awp _ _ _ _ _
 refine awp_seq ?_
 refine awp_seq ?_
 refine awp_region 8 mixed (by kernel_rfl) ?_
 refine rg_q (q_load sz105 rfl rfl) ?_
 refine rg_q (q_len isl105 rfl (by exact len_map _ _)) ?_
 refine rg_q (q_eql rfl rfl) (rg_q (q_m rfl) ?_)
 refine rg_g rfl rfl (fun hG => (q_load sz105 rfl rfl)) ?_
 refine rg_g rfl rfl (fun hG => (q_makeFunc (.cons rfl .nil))) ?_
 refine rg_g rfl rfl (fun hG => (q_call en130 (.cons rfl (.cons rfl .nil)) rfl (containsIm_p (neqB l) 131 [.pt [.sl 1 (l.map imC)] 0] en131 l (fun x _ => merged1_p l x (by have q := of_decide_eq_false (T.bool_inj (a := _) hG.1); omega))))) ?_
 refine rg_pick rfl rfl rfl rfl rfl rfl ?_
 refine rn ?_
 change Awp _ _ _ _ _
 refine awp_len (t := 9) rfl (fun hl9 => ?_)
 (try simp only [List.length_map] at hl9)
 refine awp_cond rfl (fun hc1 => ?_) (fun hc1 => ?_)
 ·
  (try simp only [nb, ne_eq] at hc1)
  have hq : (decide (l.length = 0) || l.any (neqB l)) = true := by
   rcases hc1 with q | q
   · rw [decide_eq_true (show l.length = 0 by omega)]; rfl
   · rw [q, Bool.or_true]
  rw [if_pos hq] at hu
  refine awp_seq ?_
  refine awp_region 2 mixed (by kernel_rfl) ?_
  refine rg_q (q_assign (x := .d (.sl _ _)) rfl) (rg_q (q_a rfl) ?_)
  refine rn ?_
  change Awp _ _ _ _ _
  refine awp_ret ?_
  refine ⟨_, (.cons (.tmp (by exact .d _)) (.cons (.tmp (by exact .d _)) .nil)), ?_⟩
  rw [hu]; rfl
 ·
  (try simp only [nb, ne_eq] at hc1)
  obtain ⟨hln, hany⟩ := hc1
  have hl0 : 0 < l.length := by omega
  have hx0 := hd_at hl0
  have hx0l : (l.getD 0 []).length = hdN l := rfl
  have hqn : ¬ (decide (l.length = 0) || l.any (neqB l)) = true := by rw [hany, decide_eq_false (show ¬ l.length = 0 by omega)]; decide
  rw [if_neg hqn] at hu
  have hlen : ∀ x ∈ l, x.length = hdN l := fun x hx => by
   have := List.any_eq_false.1 hany x hx
   unfold neqB at this
   simpa using this
  refine awp_skip ?_
  change Awp _ _ _ _ _
  refine awp_seq ?_
  refine awp_seq ?_
  refine awp_region 10 mixed (by kernel_rfl) ?_
  refine rg_q (q_load sz105 rfl rfl) ?_
  refine rg_q (q_len isl105 rfl (by exact len_map _ _)) ?_
  refine rg_q (q_gtr rfl rfl) (rg_q (q_m rfl) ?_)
  refine rg_g rfl rfl (fun hG => (q_load sz105 rfl rfl)) ?_
  refine rg_g rfl rfl (fun hG => (q_indexAddr sl105 rfl rfl (by (have hg0 := T.bool_inj (a := _) hG.1; (try simp only [nb, ne_eq] at hg0); omega)) (map_at (k := 0) (by omega) hx0))) ?_
  refine rg_g rfl rfl (fun hG => (q_load sz72 rfl rfl)) ?_
  refine rg_g rfl rfl (fun hG => (q_len isl72 rfl (by exact len_map _ _))) ?_
  refine rg_g rfl rfl (fun hG => (q_gtr rfl rfl)) ?_
  refine rg_pick rfl rfl rfl rfl rfl rfl ?_
  refine rn ?_
  change Awp _ _ _ _ _
  refine awp_len (t := 17) rfl (fun hl17 => ?_)
  (try simp only [List.length_map] at hl17)
  refine awp_cond rfl (fun hc3 => ?_) (fun hc3 => ?_)
  ·
   (try simp only [nb, ne_eq] at hc3)
   rw [if_pos (show 16 < l.length ∨ 1600 < hdN l by omega)] at hu
   refine awp_seq ?_
   refine awp_region 2 mixed (by kernel_rfl) ?_
   refine rg_q (q_assign (x := .d (.sl _ _)) rfl) (rg_q (q_a rfl) ?_)
   refine rn ?_
   change Awp _ _ _ _ _
   refine awp_ret ?_
   refine ⟨_, (.cons (.tmp (by exact .d _)) (.cons (.tmp (by exact .d _)) .nil)), ?_⟩
   rw [hu]; rfl
  ·
   (try simp only [nb, ne_eq] at hc3)
   have hl16 : l.length ≤ 16 := by omega
   have hn16 : hdN l ≤ 1600 := by omega
   rw [if_neg (by omega)] at hu
   refine awp_skip ?_
   change Awp _ _ _ _ _
   refine awp_seq ?_
   refine awp_region 4 mixed (by kernel_rfl) ?_
   refine rg_q (q_load sz105 rfl rfl) ?_
   refine rg_q (q_indexAddr sl105 rfl rfl (by omega) (map_at (k := 0) (by omega) hx0)) ?_
   refine rg_q (q_load sz72 rfl rfl) ?_
   refine rg_q (q_len isl72 rfl (by exact len_map _ _)) ?_
   refine rg_nil ?_
   refine aops_make (m := hdN l) sl189 zr160 by160 rfl rfl rfl rfl (by (try simp only [List.length_map]); omega) (by (try simp only [List.length_map]); omega) rfl rfl ?_
   refine aops_q rfl (q_assign (x := .rs _) rfl) ?_
   refine aops_nil ?_
   change Awp _ _ _ _ _
   refine awp_len (t := 29) rfl (fun hl29 => ?_)
   (try simp only [List.length_map] at hl29)
   refine awp_seq ?_
   refine awp_seq ?_
   refine awp_region 3 mixed (by kernel_rfl) ?_
   refine rg_q (q_move (x := .rs _) rfl) ?_
   refine rg_q (q_len_rs isl189 rfl rfl) ?_
   refine rg_q (q_m rfl) ?_
   refine rn ?_
   change Awp _ _ _ _ _
   skip
   (try simp only [List.length_map] at hl32)
   refine awp_block ?_
   refine awp_loopH [2, 3, 5, 7, 8, 34, 35, 36, 37, 38, 39, 40, 41, 42, 43, 44, 45, 46, 47, 48, 49, 50, 51, 52, 53, 54, 55, 56, 57, 58, 59, 60, 61, 62, 63, 64, 65] [31] (α := Nat) (fun k => [(34, T.i (k : Int))]) (fun k => [(31, .row 160 2 (esR l (hdN l) k 0))]) (fun k => k ≤ hdN l ∧ mgS l 0 (hdN l) = mgS l k (hdN l - k)) (fun k => hdN l - k) 0 ⟨Nat.zero_le _, rfl⟩ ?_ ?_
   · exact le_head (ms := [31]) (by repeat (exact Out.refl _)) ⟨(by rfl), trivial⟩ ⟨(by (show Site.row _ _ _ = Site.row _ _ _; (rw [esR_zero]; rfl))), trivial⟩ rfl rfl rfl rfl
   ·
    intro k ⟨hk, hf⟩
    refine awp_seq ?_
    refine awp_region 1 mixed (by kernel_rfl) ?_
    refine rg_q (q_lss rfl rfl) ?_
    refine rn ?_
    change Awp _ _ _ _ _
    refine awp_seq ?_
    refine awp_cond rfl (fun hc7 => ?_) (fun hc7 => ?_)
    ·
     (try simp only [nb, ne_eq] at hc7)
     (try simp only [List.length_replicate] at hc7)
     have hlt : k < hdN l := by omega
     have hms := mgS_at (l := l) hlt
     rw [hms] at hf
     have hcl := colZ_len l k
     refine awp_skip ?_
     change Awp _ _ _ _ _
     refine awp_seq ?_
     refine awp_block ?_
     refine awp_seq ?_
     refine awp_region 2 mixed (by kernel_rfl) ?_
     refine rg_q (q_m rfl) (rg_q (q_a rfl) ?_)
     refine rs (awp_region 3 mixed (by kernel_rfl) ?_)
     refine rg_q (q_load sz105 rfl rfl) ?_
     refine rg_q (q_len isl105 rfl (by exact len_map _ _)) ?_
     refine rg_q (q_m rfl) ?_
     refine rn ?_
     change Awp _ _ _ _ _
     refine awp_len (t := 37) rfl (fun hl37 => ?_)
     (try simp only [List.length_map] at hl37)
     refine awp_block ?_
     refine awp_loopH [2, 3, 7, 8, 39, 40, 41, 42, 43, 44, 45, 46, 47, 48, 49, 50, 51, 52, 53, 54, 55, 56, 57, 58, 59, 60, 61, 62, 63, 64] [31] (α := Nat) (fun i => [(39, T.i (i : Int))]) (fun i => [(31, .row 160 2 (esR l (hdN l) k i))]) (fun i => i ≤ l.length ∧ peS (colZ l k) = peS ((colZ l k).drop i) ∧ ∀ z ∈ (colZ l k).take i, peI z = 0) (fun i => l.length - i) 0 ⟨Nat.zero_le _, rfl, fun z q => by simp at q⟩ ?_ ?_
     · exact le_head (ms := [31]) (by repeat (exact Out.refl _)) ⟨(by rfl), trivial⟩ ⟨(by rfl), trivial⟩ rfl rfl rfl rfl
     ·
      intro i ⟨hi, hg, hok⟩
      refine awp_seq ?_
      refine awp_region 1 mixed (by kernel_rfl) ?_
      refine rg_q (q_lss rfl rfl) ?_
      refine rn ?_
      change Awp _ _ _ _ _
      refine awp_seq ?_
      refine awp_cond rfl (fun hc10 => ?_) (fun hc10 => ?_)
      ·
       (try simp only [nb, ne_eq] at hc10)
       have hil : i < l.length := by omega
       obtain ⟨x, hx⟩ : ∃ x, l[i]? = some x := ⟨_, List.getElem?_eq_getElem hil⟩
       have hxl := hlen x (List.mem_of_getElem? hx)
       have hzk := atZ_at (x := x) (k := k) (by omega)
       have hcz := colZ_at k hx
       have hps := peS_at hcz
       rw [hps] at hg
       have hsi := smS_in (c := colZ l k) i (by omega) hok
       have hsn := smS_snoc hcz
       refine awp_skip ?_
       change Awp _ _ _ _ _
       refine awp_seq ?_
       refine awp_block ?_
       refine awp_seq ?_
       refine awp_region 3 mixed (by kernel_rfl) ?_
       refine rg_q (q_indexAddr sl105 rfl rfl (by omega) (map_at (by omega) hx)) ?_
       refine rg_q (q_load sz72 rfl rfl) (rg_q (q_assign (x := .d (.sl _ _)) rfl) ?_)
       refine rn ?_
       change Awp _ _ _ _ _
       refine awp_seq ?_
       refine awp_seq ?_
       refine awp_region 6 mixed (by kernel_rfl) ?_
       refine rg_q (q_move (x := .d (.sl _ _)) rfl) (rg_q (q_m rfl) ?_)
       refine rg_q (q_indexAddr sl72 rfl rfl (by omega) (map_at (k := k) (by omega) hzk)) ?_
       refine rg_q (q_load sz46 rfl rfl) ?_
       refine rg_q (q_call en127 (.cons rfl .nil) rfl (partErr_p (atZ x k))) ?_
       refine rg_q (q_a rfl) ?_
       refine rs (awp_region 2 mixed (by kernel_rfl) ?_)
       refine rg_q (q_m rfl) (rg_q (q_neq rfl rfl) ?_)
       refine rn ?_
       change Awp _ _ _ _ _
       refine awp_cond rfl (fun hc13 => ?_) (fun hc13 => ?_)
       ·
        (try simp only [nb, ne_eq] at hc13)
        have he : peS (colZ l k) = peI (atZ x k) := by rw [hg, if_pos hc13]
        have hz : mgR l = ([], peI (atZ x k)) := by rw [hu, hf, he, if_pos hc13, if_pos hc13]
        refine awp_seq ?_
        refine awp_region 3 mixed (by kernel_rfl) ?_
        refine rg_q (q_m rfl) (rg_q (q_assign (x := .d (.sl _ _)) rfl) (rg_q (q_a rfl) ?_))
        refine rn ?_
        change Awp _ _ _ _ _
        refine awp_ret ?_
        refine ⟨_, (.cons (.tmp (by exact .d _)) (.cons (.tmp (by exact .d _)) .nil)), ?_⟩
        rw [hz]; rfl
       ·
        (try simp only [nb, ne_eq] at hc13)
        have hz0 : peI (atZ x k) = 0 := hc13
        rw [if_neg (fun q => q hz0)] at hg
        have hvz := vZ_in hz0
        have hok2 : ∀ z ∈ (colZ l k).take (i + 1), peI z = 0 := fun z q => by
         rw [takeSnoc hcz] at q
         rcases List.mem_append.1 q with q | q
         · exact hok z q
         · rw [List.mem_singleton.1 q]; exact hz0
        have hsn2 : smS ((colZ l k).take (i + 1)) = ((smS ((colZ l k).take i)).1 + (vZ (atZ x k)).1, (smS ((colZ l k).take i)).2 + (vZ (atZ x k)).2) := hsn
        have hset := esR_set hlt hsn2
        have hea := esR_at (l := l) (n := hdN l) (i := i) hlt
        have hel := esR_len l (hdN l) k i
        refine awp_skip ?_
        change Awp _ _ _ _ _
        refine awp_region 13 mixed (by kernel_rfl) ?_
        refine rg_q (q_move (x := .rs _) rfl) (rg_q (q_m rfl) (rg_q (q_move (x := .rs _) rfl) (rg_q (q_m rfl) ?_)))
        refine rg_q (q_indexAddr_rs sl189 rfl rfl rfl (by omega) (by omega)) ?_
        refine rg_q (q_load_rowA sz160 rfl rfl rfl hea) ?_
        refine rg_q (q_move (x := .d (.sl _ _)) rfl) (rg_q (q_m rfl) ?_)
        refine rg_q (q_indexAddr sl72 rfl rfl (by omega) (map_at (k := k) (by omega) hzk)) ?_
        refine rg_q (q_load sz46 rfl rfl) ?_
        refine rg_q (q_call en128 (.cons rfl .nil) rfl (sumOf_p (atZ x k) hz0)) ?_
        refine rg_q (q_call en132 (.cons rfl (.cons rfl .nil)) rfl (fplus_p _ _ _ _ (by omega) (by omega) (by omega) (by omega))) ?_
        refine rg_q (q_indexAddr_rs sl189 rfl rfl rfl (by omega) (by omega)) ?_
        refine rg_nil ?_
        refine aops_store_row sz160 rfl rfl (by exact .inr ⟨_, rfl⟩) rfl rfl (i := k) (j := 0) rfl hea (by decide) hset ?_
        refine aops_nil ?_
        change Awp _ _ _ _ _
        refine awp_region 2 mixed (by kernel_rfl) ?_
        refine rg_q (q_add rfl rfl (In64.mk (by omega) (by omega))) ?_
        refine rg_q (q_m rfl) ?_
        refine rn ?_
        refine ⟨i + 1, ⟨by omega, hg, hok2⟩, by omega, ?_⟩
        exact le_head (ms := [31]) (by repeat (first | exact Out.head rfl rfl | (refine Out.put ?_ rfl) | (refine Out.site ?_ rfl))) ⟨(by rfl), trivial⟩ ⟨(by rfl), trivial⟩ rfl rfl rfl rfl
      ·
       (try simp only [nb, ne_eq] at hc10)
       have hiL : i = l.length := by omega
       have hcz0 : peS (colZ l k) = 0 := by rw [hg, List.drop_of_length_le (by omega)]; rfl
       have hf2 : mgS l 0 (hdN l) = mgS l (k + 1) (hdN l - (k + 1)) := by rw [hf, if_neg (c := peS (colZ l k) ≠ 0) (fun q => q hcz0)]
       subst hiL
       have hnx := esR_next (l := l) (n := hdN l) (k := k)
       refine awp_exit ?_
       change Awp _ _ _ _ _
       refine awp_region 2 mixed (by kernel_rfl) ?_
       refine rg_q (q_add rfl rfl (In64.mk (by omega) (by omega))) ?_
       refine rg_q (q_m rfl) ?_
       refine rn ?_
       refine ⟨k + 1, ⟨by omega, hf2⟩, by omega, ?_⟩
       exact le_head (ms := [31]) (by repeat (first | exact Out.head rfl rfl | (refine Out.put ?_ rfl) | (refine Out.headIn ?_ rfl rfl rfl))) ⟨(by rfl), trivial⟩ ⟨(by (show Site.row _ _ _ = Site.row _ _ _; (rw [hnx]; done))), trivial⟩ rfl rfl rfl rfl
    ·
     (try simp only [nb, ne_eq] at hc7)
     (try simp only [List.length_replicate] at hc7)
     have hkn : k = hdN l := by omega
     have hm0 : mgS l 0 (hdN l) = 0 := by rw [hf, hkn, Nat.sub_self]; rfl
     rw [if_neg (c := mgS l 0 (hdN l) ≠ 0) (fun q => q hm0)] at hu
     subst hkn
     rw [esR_all]
     refine awp_exit ?_
     change Awp _ _ _ _ _
     refine awp_seq ?_
     refine Awp.le (le_freezeR (es := (smL l (hdN l)).map shC) 31 4 (by show Site.row _ _ _ = _; rfl) rfl rfl rfl hmine) ?_
     refine awp_region 4 mixed (by kernel_rfl) ?_
     refine rg_q (q_move (x := .d (.sl _ _)) rfl) ?_
     refine rg_q (q_call en113 (.cons rfl .nil) rfl (numbersOf5_p (smL l (hdN l)) (by rw [smL_len]; omega))) ?_
     refine rg_q (q_assign (x := .d (.sl _ _)) rfl) (rg_q (q_a rfl) ?_)
     refine rn ?_
     change Awp _ _ _ _ _
     refine awp_ret ?_
     refine ⟨_, (.cons (.tmp (by exact .d _)) (.cons (.tmp (by exact .d _)) .nil)), ?_⟩
     rw [hu]; rfl
end Go.Proofs.YtphlaicnmmglhaaGreat.Am.M
-- mini
namespace Go.Proofs.YtphlaicnmmglhaaGreat.Am.M
open Go
end Go.Proofs.YtphlaicnmmglhaaGreat.Am.M
-- mini
namespace Go.Proofs.YtphlaicnmmglhaaGreat.Am.M
open Go

theorem vlA_add (t : Tsk) (c : Int) : ∀ (l : List (Int × Int)) (s : (Int × Int) × Int), l.foldl (vlF t c []) s = ((s.1.1 + (vlA t c [] l).1.1, s.1.2 + (vlA t c [] l).1.2), s.2 + (vlA t c [] l).2)
  | [], s => by
    show s = ((s.1.1 + 0, s.1.2 + 0), s.2 + 0)
    simp
  | y :: l, s => by
    have e : vlA t c [] (y :: l) = l.foldl (vlF t c []) (vlF t c [] ((0, 0), 0) y) := rfl
    rw [e, vlA_add t c l]
    show l.foldl (vlF t c []) (vlF t c [] s y) = _
    rw [vlA_add t c l, vlF_nil, vlF_nil]
    by_cases q : inR 0 (smpI t.ar (spI t.g c) y) 60 = true
    · rw [if_pos q, if_pos q]
      simp only [Prod.mk.injEq]
      omega
    · rw [if_neg q, if_neg q]
      simp only [Prod.mk.injEq]
      omega
theorem vs_in {t : Tsk} (h : TskOk t) (c : Int) {l : List (Int × Int)} (hl : l.length ≤ 1600) : (-6600000 ≤ (vlA t c [] l).1.1 ∧ (vlA t c [] l).1.1 ≤ 6600000) ∧ -6600000 ≤ (vlA t c [] l).1.2 ∧ (vlA t c [] l).1.2 ≤ 6600000 := by
  have hb := vlA_in h (c := c) (dd := []) (l := l) l.length (Nat.le_refl _)
  rw [List.take_length] at hb
  omega
theorem cz_ok {x : Int × Int} (h1 : -10000000 ≤ x.1 ∧ x.1 ≤ 10000000) (h2 : -10000000 ≤ x.2 ∧ x.2 ≤ 10000000) : peI (czP x) = 0 ∧ vZ (czP x) = x := by
  obtain ⟨a1, a2, a3⟩ := wd_wh (a := x.1) (by omega)
  obtain ⟨b1, b2, b3⟩ := wd_wh (a := x.2) (by omega)
  refine ⟨?_, ?_⟩
  · unfold peI czP
    simp only
    rw [a1, b1, a3, b3, decide_eq_false (by omega), decide_eq_false (by omega)]
    rfl
  · unfold vZ czP
    simp only
    rw [a2, b2]
end Go.Proofs.YtphlaicnmmglhaaGreat.Am.M
namespace Go.Proofs.YtphlaicnmmglhaaGreat.Am.M
open Go

theorem whl_num {b : Nat} {n : Int} (h : Whl b n) : ∃ s m e, Ieee.single.read b = .number s m e ∧ sgI s (m * 2 ^ (e + KK).toNat) = n * (QQ : Int) := by
  have hi := h.int
  have hbk := h.back
  have hlo := h.lo
  have hhi := h.hi
  have e0 : FloatKind.f32.decode b = Ieee.single.read b := rfl
  unfold floatToIntVal at hi
  rw [e0] at hi
  cases hr : Ieee.single.read b with
  | nan s t => rw [hr] at hi; cases hi
  | infinity s => rw [hr] at hi; cases hi
  | number s m e =>
    refine ⟨s, m, e, rfl, ?_⟩
    have hn := num_of fmS LS hr
    have hw := num_wd fmS LS (a := n) (by omega)
    have hord : FloatKind.f32.format.order (FloatKind.f32.nearest n) b = some (compare (sgI (decide (n < 0)) (n.natAbs * QQ)) (sgI s (m * 2 ^ (e + KK).toNat))) := order_num hw hn
    rw [hord] at hbk
    have h3 := (cmp_some (sgI (decide (n < 0)) (n.natAbs * QQ)) (sgI s (m * 2 ^ (e + KK).toNat))).1
    unfold ordB at hbk
    have hbk2 : (some (compare (sgI (decide (n < 0)) (n.natAbs * QQ)) (sgI s (m * 2 ^ (e + KK).toNat))) != some .eq) = false := hbk
    rw [bne, h3] at hbk2
    have h4 := of_decide_eq_true (by simpa using hbk2 : decide (sgI (decide (n < 0)) (n.natAbs * QQ) = sgI s (m * 2 ^ (e + KK).toNat)) = true)
    rw [← h4, sg_wd]
theorem sgI_natAbs {u : Bool} {z : Int} (h : z = 0 ∨ u = decide (z < 0)) : sgI u z.natAbs = z := by
  unfold sgI
  rcases h with rfl | rfl
  · cases u <;> rfl
  · by_cases h : z < 0
    · rw [decide_eq_true h, if_pos rfl]; omega
    · rw [decide_eq_false h, if_neg (by simp)]; omega
theorem log_pow {n k q : Nat} (h0 : 0 < n) (h : n * 2 ^ k < 2 ^ q) : n.log2 + k < q := by
  have h1 := Nat.log2_self_le (n := n) (by omega)
  have h2 : 2 ^ (n.log2 + k) < 2 ^ q := by
    rw [Nat.pow_add]
    exact Nat.lt_of_le_of_lt (Nat.mul_le_mul_right _ h1) h
  exact (Nat.pow_lt_pow_iff_right (by decide)).1 h2
theorem add_num {b c : Nat} {s t : Bool} {m n : Nat} {i j x y : Int} (hb : Ieee.single.read b = .number s m i) (hc : Ieee.single.read c = .number t n j) (hx : sgI s (m * 2 ^ (i + KK).toNat) = x * (QQ : Int)) (hy : sgI t (n * 2 ^ (j + KK).toNat) = y * (QQ : Int)) (hxy : (x + y).natAbs < 2 ^ 24) :
    ∃ d u, floatBits .add .f32 b c = some d ∧ Numb Ieee.single d u ((x + y).natAbs * QQ) ∧ sgI u ((x + y).natAbs * QQ) = (x + y) * (QQ : Int) := by
  obtain ⟨_, b2, b3⟩ := read_num fmS hb
  obtain ⟨_, c2, c3⟩ := read_num fmS hc
  have hLS := LS
  obtain ⟨base, hbase⟩ : ∃ z, z = min i j := ⟨_, rfl⟩
  obtain ⟨B, hB⟩ : ∃ B : Nat, B = (base + KK).toNat := ⟨_, rfl⟩
  obtain ⟨tot, htot⟩ : ∃ z, z = Ieee.signed s m (i - base).toNat + Ieee.signed t n (j - base).toNat := ⟨_, rfl⟩
  have e1 : (i + KK).toNat = (i - base).toNat + B := by omega
  have e2 : (j + KK).toNat = (j - base).toNat + B := by omega
  have hpB : (0 : Int) < ((2 ^ B : Nat) : Int) := by have := Nat.two_pow_pos B; omega
  have htB : tot * ((2 ^ B : Nat) : Int) = (x + y) * (QQ : Int) := by
    rw [htot, Int.add_mul, Int.add_mul, ← hx, ← hy, e1, e2, signed_sg, signed_sg, Nat.pow_add, Nat.pow_add, ← Nat.mul_assoc, ← Nat.mul_assoc, sg_mul s _ (2 ^ B), sg_mul t _ (2 ^ B)]
  have hna : tot.natAbs * 2 ^ B = (x + y).natAbs * QQ := by
    have := congrArg Int.natAbs htB
    rw [Int.natAbs_mul, Int.natAbs_mul, Int.natAbs_natCast, Int.natAbs_natCast] at this
    exact this
  have hQp : (0 : Int) < (QQ : Int) := by have := QQ_pos; omega
  obtain ⟨u, hu⟩ : ∃ u : Bool, u = (if tot = 0 then s && t else decide (tot < 0)) := ⟨_, rfl⟩
  have hsum : floatBits .add .f32 b c = some (Ieee.single.nearest u tot.natAbs base) := by
    show Ieee.single.add b c = _
    unfold Ieee.Format.add
    rw [hb, hc]
    simp only [Ieee.Datum.sum, Option.map_some, Option.some.injEq, ← hbase, ← htot]
    show Ieee.single.nearest _ _ _ = _
    rw [hu]
  have hz : x + y = 0 ∨ u = decide (x + y < 0) := by
    by_cases h0 : tot = 0
    · left
      rw [h0, Int.zero_mul] at htB
      rcases Int.mul_eq_zero.1 htB.symm with q | q
      · exact q
      · omega
    · right
      rw [hu, if_neg h0]
      refine decide_eq_decide.2 ⟨fun q => ?_, fun q => ?_⟩
      · have := Int.mul_neg_of_neg_of_pos q hpB
        rw [htB] at this
        by_cases w : x + y < 0
        · exact w
        · have := Int.mul_nonneg (show 0 ≤ x + y by omega) (Int.le_of_lt hQp); omega
      · have := Int.mul_neg_of_neg_of_pos q hQp
        rw [← htB] at this
        by_cases w : tot < 0
        · exact w
        · have := Int.mul_nonneg (show 0 ≤ tot by omega) (Int.le_of_lt hpB); omega
  refine ⟨_, u, hsum, ?_, by rw [sg_mul, sgI_natAbs hz]⟩
  obtain ⟨N, hN⟩ : ∃ N, N = (x + y).natAbs := ⟨_, rfl⟩
  rw [← hN] at hxy hna ⊢
  have hlog : 0 < N → N.log2 ≤ 23 := fun h0 => log_le h0 (by simpa using hxy)
  by_cases hb0 : base ≤ 0
  · obtain ⟨r, hr⟩ : ∃ r : Nat, r = (-base).toNat := ⟨_, rfl⟩
    have e3 : KK = r + B := by omega
    have e4 : tot.natAbs = N * 2 ^ r := by
      have : tot.natAbs * 2 ^ B = N * 2 ^ r * 2 ^ B := by rw [hna, Nat.mul_assoc, ← Nat.pow_add, ← e3]; rfl
      exact Nat.eq_of_mul_eq_mul_right (Nat.two_pow_pos B) this
    have := num_near fmS u r base (n := N) (by simpa using hxy) hLS (by omega) (fun _ => by omega) (fun h0 => by have := hlog h0; omega)
    rw [← hB, Nat.mul_assoc, ← Nat.pow_add, ← e3, ← e4] at this
    exact this
  · obtain ⟨r, hr⟩ : ∃ r : Nat, r = base.toNat := ⟨_, rfl⟩
    have e3 : B = r + KK := by omega
    have e4 : tot.natAbs * 2 ^ r = N := by
      have : tot.natAbs * 2 ^ r * 2 ^ KK = N * 2 ^ KK := by rw [Nat.mul_assoc, ← Nat.pow_add, ← e3, hna]; rfl
      exact Nat.eq_of_mul_eq_mul_right (Nat.two_pow_pos KK) this
    have hlt : tot.natAbs < 2 ^ 24 := Nat.lt_of_le_of_lt (by rw [← e4]; exact Nat.le_mul_of_pos_right _ (Nat.two_pow_pos r)) hxy
    have := num_near fmS u 0 base (n := tot.natAbs) (by simpa using hlt) hLS (by omega) (fun _ => by omega) (fun h0 => by have := log_pow h0 (show tot.natAbs * 2 ^ r < 2 ^ 24 by rw [e4]; exact hxy); omega)
    rw [← hB, Nat.pow_zero, Nat.mul_one, hna] at this
    exact this
def adW (a b : Nat) : Nat := (floatBits .add .f32 a b).getD 0
theorem adW_is {a b : Nat} {x y : Int} (ha : Whl a x) (hb : Whl b y) : floatBits .add .f32 a b = some (adW a b) ∧ vI (adW a b) = x + y := by
  obtain ⟨s, m, i, h1, h2⟩ := whl_num ha
  obtain ⟨t, n, j, h3, h4⟩ := whl_num hb
  have a1 := ha.lo
  have a2 := ha.hi
  have b1 := hb.lo
  have b2 := hb.hi
  obtain ⟨d, u, h5, h6, h7⟩ := add_num h1 h3 h2 h4 (by omega)
  have e : adW a b = d := by unfold adW; rw [h5]; rfl
  refine ⟨by rw [e]; exact h5, ?_⟩
  rw [e]
  have hq : (x + y).natAbs * QQ / QQ = (x + y).natAbs := Nat.mul_div_cancel _ QQ_pos
  have hi := int_num (k := .f32) h6 (by rw [hq]; omega)
  unfold vI
  rw [hi, hq]
  show sgI u (x + y).natAbs = x + y
  rw [sg_mul] at h7
  exact Int.eq_of_mul_eq_mul_right (by have := QQ_pos; omega) h7
end Go.Proofs.YtphlaicnmmglhaaGreat.Am.M
namespace Go.Proofs.YtphlaicnmmglhaaGreat.Am
open Go Go.RowKit
inductive PartsA (ev : Operand → T) : List (Nat × Operand) → List (Nat × List T) → Prop
  | nil : PartsA ev [] []
  | one {i : Nat} {y : Operand} {ys : List (Nat × Operand)} {x : T} {xs : List (Nat × List T)} (h : ev y = x) (hx : x.one = true) (hs : PartsA ev ys xs) : PartsA ev ((i, y) :: ys) ((i, [x]) :: xs)
  | agg {i : Nat} {y : Operand} {ys : List (Nat × Operand)} {cs : List D} {xs : List (Nat × List T)} (h : ev y = .d (.agg cs)) (hs : PartsA ev ys xs) : PartsA ev ((i, y) :: ys) ((i, cs.map T.d) :: xs)
  | ag {i : Nat} {y : Operand} {ys : List (Nat × Operand)} {j : Nat} {f g : List D} {xs : List (Nat × List T)} (h : ev y = .ag j f g) (h1 : (f.all D.sc && g.all D.sc) = true) (hs : PartsA ev ys xs) : PartsA ev ((i, y) :: ys) ((i, agC j f g) :: xs)
theorem fill_repA {w : World} {blk : Nat → Option Nat} {val : Nat → Value} {a : Act} {ok : Nat → Prop} {s : Nat → Site} {ev : Operand → T} (hev : ∀ y, RepT w ok blk val s (ev y) (a.eval y)) (hsite : ∀ k, SiteIn w ok blk val s (blk k) (val k) (s k)) {pl : Nat → Option (Nat × Nat)} : ∀ {ys : List (Nat × Operand)} {xs : List (Nat × List T)} {cs : List T} {cells : Array Value}, PartsA ev ys xs → CellsT w ok blk val s cs cells.toList → fillTOk pl cs.length xs →
    ∃ out, Instr.fill pl cells (ys.map fun (i, y) => (i, a.eval y)) = some out ∧ CellsT w ok blk val s (fillT pl cs xs) out.toList := by
  have step : ∀ {ys : List (Nat × Operand)} {xs : List (Nat × List T)} {cs : List T} {cells : Array Value} {i : Nat} {y : Operand} {z : List T}, CellsT w ok blk val s z (a.eval y).cells.toList → CellsT w ok blk val s cs cells.toList → fillTOk pl cs.length ((i, z) :: xs) →
      (∀ {cs : List T} {cells : Array Value}, CellsT w ok blk val s cs cells.toList → fillTOk pl cs.length xs → ∃ out, Instr.fill pl cells (ys.map fun (i, y) => (i, a.eval y)) = some out ∧ CellsT w ok blk val s (fillT pl cs xs) out.toList) →
      ∃ out, Instr.fill pl cells (((i, y) :: ys).map fun (i, y) => (i, a.eval y)) = some out ∧ CellsT w ok blk val s (fillT pl cs ((i, z) :: xs)) out.toList := by
    intro ys xs cs cells i y z hz hc hok ih
    obtain ⟨h1, h2⟩ := hok
    cases hp : pl i with
    | none => simp only [hp] at h1
    | some os =>
      obtain ⟨off, sz⟩ := os
      simp only [hp] at h1
      have hlen := hz.len
      have hcl := hc.len
      simp only [Array.length_toList] at hlen hcl
      have hsp := fold_splice off (a.eval y).cells.toList 0 cells (by simp; omega)
      simp only [Nat.add_zero, Array.length_toList] at hsp
      have hfold : ((a.eval y).cells.zipIdx.foldl (fun cs (x : Value × Nat) => cs.setIfInBounds (off + x.2) x.1) cells) = (((a.eval y).cells.toList.zipIdx 0).foldl (fun cs (x : Value × Nat) => cs.setIfInBounds (off + x.2) x.1) cells) := by
        rw [← Array.foldl_toList]; simp
      obtain ⟨out, k1, k2⟩ := ih (cs := setTs cs off z) (cells := ((a.eval y).cells.zipIdx.foldl (fun cs (x : Value × Nat) => cs.setIfInBounds (off + x.2) x.1) cells)) (by
        rw [hfold, hsp]
        have := hc.set hz (o := off) (by omega)
        simpa using this) (by rw [setTs_length (by omega)]; exact h2)
      refine ⟨out, ?_, by simpa [fillT, hp] using k2⟩
      simp only [List.map_cons, Instr.fill, hp]
      rw [if_neg (by simp; omega)]
      exact k1
  intro ys xs cs cells hp
  induction hp generalizing cs cells with
  | nil => exact fun hc _ => ⟨cells, rfl, hc⟩
  | one h hx hs ih =>
    rename_i i y ys x xs
    intro hc hok
    have hr : RepT w ok blk val s x (a.eval y) := h ▸ hev y
    have h1 := hr.one hsite hx
    refine step ⟨by rw [one_cells h1]; rfl, fun j u hu => ?_⟩ hc hok fun hc' hok' => ih hc' hok'
    rw [one_cells h1]
    cases j with
    | zero => simp at hu; subst hu; exact ⟨_, rfl, h1, hr⟩
    | succ j => simp at hu
  | agg h hs ih =>
    rename_i i y ys ds xs
    intro hc hok
    have hr : Rep w ok (.agg ds) (a.eval y) := by have := hev y; rw [h] at this; exact this
    obtain ⟨hL, hsc⟩ := cells_inv hr (.inr ⟨_, rfl⟩)
    exact step (CellsT.of hL fun d hd => by obtain ⟨j, hj⟩ := List.getElem?_of_mem hd; exact hsc j d hj) hc hok fun hc' hok' => ih hc' hok'
  | ag h h1 hs ih =>
    rename_i i y ys j f g xs
    intro hc hok
    have hr : RepT w ok blk val s (.ag j f g) (a.eval y) := h ▸ hev y
    obtain ⟨vs, r1, r2⟩ := agC_in hr hsite h1
    exact step (by rw [r1]; simpa [Value.cells] using r2) hc hok fun hc' hok' => ih hc' hok'
section
variable {P : Program} {w0 : Cx} {n : Nat} {s : Nat → Site} {ev : Operand → T} {dst : Option Tmp} {ty : TypeId} {pos : String} {after : Array Edge} {g : Option (Nat × Bool)}
theorem q_buildN {t : TypeId} {pl : List (Nat × Nat)} {z : Value} {parts : List (Nat × Operand)} {pds : List (Nat × List T)} {k : Nat} {u v : List D} (hp : plB P t pl = true) (hz : zrB P t z) (h1 : z.cells.toList.all Value.oneCell' = true)
    (hpd : PartsA ev parts pds) (hok : fillTOk (pl[·]?) (constD z).length pds) (hcs : fillT (pl[·]?) ((constD z).map T.d) pds = agC k u v) : QOp P w0 n s ev ⟨dst, .build t parts.toArray, ty, pos, after, g⟩ (.ag k u v) :=
  .mk fun a w ok blk val h hs hnew => by
    obtain ⟨hz1, hz2⟩ := constD_rep (w := w) (ok := ok) h1
    obtain ⟨out, k1, k2⟩ := fill_repA h hs (pl := (pl[·]?)) (cells := z.cells) hpd (CellsT.of hz1 hz2) (by rw [List.length_map]; exact hok)
    rw [hcs] at k2
    exact ⟨.agg out, w, run_build hp hz k1, Ext.refl w, by have := agC_out k2; simpa using this⟩
theorem m_callL1 {at_ : Array TypeId} {d e sz : Nat} {es : List (List D)} {f : FuncId} {y : Operand} {x : D} {us vs : List D}
    (he : enB P f = true) (hr : PCS P f [.d x] [] (.ag 0 us vs) [.row e sz es]) (hy : ev y = .d x) (hs : s d = .no) :
    MOp P w0 n s ev ⟨some d, .call ⟨.value (.func f), #[y], at_⟩, ty, pos, after, none⟩ d (.row e sz es) (.ag d us vs) :=
  fun st _ hk hn hev hd => step_of_aops rfl fun ops rest R h => by
    refine aops_callL [d] [] he hr (.cons (show st.ev y = T.d x from live_ev hev hy (by simp)) .nil) rfl rfl rfl trivial ?_ (by simp only; rw [Nat.blt_eq, hn]; exact hd d rfl) ?_
    · exact ⟨hk.trans hs, trivial⟩
    · have e1 : afterS st [d] [] [.row e sz es] = st.site d (.row e sz es) := by
        simp only [afterS, St.site, St.mk.injEq, true_and]
        refine ⟨funext fun t => killT_nil _, funext fun j => ?_⟩
        by_cases hj : j = d
        · subst hj; simp [idxN, getS, shiftS]
        · have : Nat.beq j d = false := by rw [← Bool.not_eq_true]; exact fun e => hj (Nat.eq_of_beq_eq_true e)
          simp [idxN, this, killSite_nil]
      rw [e1]
      exact h
end
end Go.Proofs.YtphlaicnmmglhaaGreat.Am
-- mini
namespace Go.Proofs.YtphlaicnmmglhaaGreat.Am.M
open Go

set_option maxRecDepth 100000 in
theorem copyMatrixO_p (ne : Int) (l : List Nat) (h0 : 0 < l.length) (hl : l.length ≤ 10000) : PCS Tryz.prog 62 [.d (.agg (mtxC ne l))] [] (.ag 0 [.v (.int .i64 ne)] []) [.row 117 1 (l.map fC)] := by
 refine pcs_of_awpA Tryz.func62 rfl Tryz.ntmps62 Tryz.results62 (by simp) fun w0 hrnd => ?_
 refine awp_seq ?_
 refine awp_region 1 mixed (by kernel_rfl) ?_
 refine rg_q (q_box rfl (by exact .inr ⟨_, rfl⟩)) ?_
 refine rg_nil ?_
 refine aops_alloc zr31 rfl rfl rfl ?_
 refine aops_nil ?_
 change Awp _ _ _ _ _
 refine awp_seq ?_
 refine awp_regionM 8 [none, none, none, none, none, some 8, none, some 2] mixed (by kernel_rfl) ?_
 refine rgm_q rfl (q_fieldAddr fld31_0 rfl) ?_
 refine rgm_q rfl (q_load sz3 rfl rfl) ?_
 refine rgm_q rfl (q_empty0 sl29 zr117) ?_
 refine rgm_q rfl (q_fieldAddr fld31_1 rfl) ?_
 refine rgm_q rfl (q_load sz29 rfl rfl) ?_
 refine rgm_m (k := 8) rfl rfl (by rfl) (m_append0 sl29 zr117 by117 rfl (by decide) rfl rfl rfl (by rw [List.length_map]; exact h0) (by rw [List.length_map]; omega) (by rw [List.length_map]; omega) rfl) ?_
 refine rgm_q rfl (q_buildR (u := [.v (.int .i64 ne)]) (v := []) pl31 zr31 rfl (by exact .one rfl rfl (by exact .one rfl rfl .nil)) (by exact ⟨⟨rfl, by decide⟩, ⟨rfl, by decide⟩, trivial⟩) (by rfl)) ?_
 refine rgm_m (k := 2) rfl rfl (by rfl) (m_storeAg sz31 rfl rfl rfl rfl rfl rfl rfl) ?_
 refine rgm_nil (aops_nil ?_)
 change Awp _ _ _ _ _
 refine awp_ret ?_
 exact enda_mk (.inl rfl) [8] ⟨2, 8, 2, [.v (.int .i64 ne)], [], rfl, rfl, sz31, rfl, rfl⟩ (by repeat (first | exact trivial | refine ⟨rfl, ?_⟩)) rfl
set_option maxRecDepth 100000 in
theorem rcopyO_p (t : Tsk) (h1 : t.ar.el.length ≤ 1000) (h0 : 0 < t.bf.length) (h2 : t.bf.length ≤ 10000) : PCS Tryz.prog 21 [.d (.agg (tskC t))] [] (.ag 0 (arrC t.ar ++ [D.v (.int .i64 t.ne)]) (grdC t.g)) [.row 117 1 (t.bf.map fC)] := by
 refine pcs_of_awpA Tryz.func21 rfl Tryz.ntmps21 Tryz.results21 (by simp) fun w0 hrnd => ?_
 refine awp_seq ?_
 refine awp_region 1 mixed (by kernel_rfl) ?_
 refine rg_q (q_box rfl (by exact .inr ⟨_, rfl⟩)) ?_
 refine rg_nil ?_
 refine aops_alloc zr37 rfl rfl rfl ?_
 refine aops_nil ?_
 change Awp _ _ _ _ _
 refine awp_seq ?_
 refine awp_regionM 10 [none, none, none, none, none, some 8, none, none, none, some 2] mixed (by kernel_rfl) ?_
 refine rgm_q rfl (q_fieldAddr fld37_0 rfl) ?_
 refine rgm_q rfl (q_loadA (ds := [_, _, _, _, _, _, _, _, _, _, _]) sz28 rfl rfl rfl) ?_
 refine rgm_q rfl (q_call en79 (.cons rfl .nil) rfl (copyArr_p t.ar h1)) ?_
 refine rgm_q rfl (q_fieldAddr fld37_1 rfl) ?_
 refine rgm_q rfl (q_loadA (ds := [_, _]) sz31 rfl rfl rfl) ?_
 refine rgm_m (k := 8) rfl rfl (by rfl) (m_callL1 en62 (copyMatrixO_p t.ne t.bf h0 h2) rfl rfl) ?_
 refine rgm_q rfl (q_fieldAddr fld37_2 rfl) ?_
 refine rgm_q rfl (q_loadA (ds := [_, _, _, _, _]) sz35 rfl rfl rfl) ?_
 refine rgm_q rfl (q_buildN (u := (arrC t.ar ++ [D.v (.int .i64 t.ne)])) (v := (grdC t.g)) pl37 zr37 rfl (by exact .agg rfl (by exact .ag rfl rfl (by exact .agg rfl .nil))) (by exact ⟨⟨rfl, by decide⟩, ⟨rfl, by decide⟩, ⟨rfl, by decide⟩, trivial⟩) (by rfl)) ?_
 refine rgm_m (k := 2) rfl rfl (by rfl) (m_storeAg sz37 rfl rfl rfl rfl rfl rfl rfl) ?_
 refine rgm_nil (aops_nil ?_)
 change Awp _ _ _ _ _
 refine awp_ret ?_
 exact enda_mk (.inl rfl) [8] ⟨2, 8, 18, (arrC t.ar ++ [D.v (.int .i64 t.ne)]), (grdC t.g), rfl, rfl, sz37, rfl, rfl⟩ (by repeat (first | exact trivial | refine ⟨rfl, ?_⟩)) rfl

def lnB (a b : List Nat) (k : Nat) : List Nat := List.zipWith adW (a.take k) (b.take k) ++ a.drop k
theorem lnB_len {a b : List Nat} {k : Nat} (h : a.length = b.length) (hk : k ≤ a.length) : (lnB a b k).length = a.length := by
  unfold lnB
  rw [List.length_append, List.length_zipWith, List.length_take, List.length_take, List.length_drop]; omega
theorem lnB_pre {a b : List Nat} {k : Nat} (h : a.length = b.length) (hk : k ≤ a.length) : (List.zipWith adW (a.take k) (b.take k)).length = k := by
  rw [List.length_zipWith, List.length_take, List.length_take]; omega
theorem lnB_at {a b : List Nat} {k x : Nat} (h : a.length = b.length) (hx : a[k]? = some x) : (lnB a b k)[k]? = some x := by
  have hlt := (List.getElem?_eq_some_iff.1 hx).1
  have hp := lnB_pre (b := b) h (Nat.le_of_lt hlt)
  unfold lnB
  rw [List.getElem?_append_right (by omega), hp, Nat.sub_self, List.getElem?_drop, Nat.add_zero, hx]
theorem lnB_set {a b : List Nat} {k x y : Nat} (h : a.length = b.length) (hx : a[k]? = some x) (hy : b[k]? = some y) : (lnB a b k).set k (adW x y) = lnB a b (k + 1) := by
  have hlt := (List.getElem?_eq_some_iff.1 hx).1
  have hp := lnB_pre (b := b) h (Nat.le_of_lt hlt)
  unfold lnB
  rw [List.set_append_right _ _ (by omega), hp, Nat.sub_self, takeSnoc hx, takeSnoc hy, List.zipWith_append (by rw [List.length_take, List.length_take]; omega), List.drop_eq_getElem_cons hlt, List.set_cons_zero, List.append_assoc]
  rfl
theorem lnB_get {a b : List Nat} {j x y : Nat} (h : a.length = b.length) (hx : a[j]? = some x) (hy : b[j]? = some y) : (lnB a b b.length)[j]? = some (adW x y) := by
  have hlt := (List.getElem?_eq_some_iff.1 hx).1
  unfold lnB
  rw [← h, List.take_length, List.drop_length, List.append_nil, h, List.take_length, List.getElem?_zipWith, hx, hy]
theorem chK_le (l : List Nat) (m : Nat) : (chK l m).length ≤ 64 := by
  unfold chK
  rw [List.length_drop, List.length_take]; omega
theorem sAt_lin {a b c : List Nat} (h1 : a.length = b.length) (h2 : a.length = c.length) (h : ∀ (j : Nat) (x y z : Nat), a[j]? = some x → b[j]? = some y → c[j]? = some z → vI z = vI x + vI y) (m k : Nat) :
    sAt ((chK c m).map vI) k = sAt ((chK a m).map vI) k + sAt ((chK b m).map vI) k := by
  unfold sAt
  rw [List.getD_eq_getElem?_getD, List.getD_eq_getElem?_getD, List.getD_eq_getElem?_getD, List.getElem?_map, List.getElem?_map, List.getElem?_map]
  by_cases hk : k < 64
  · rw [chK_at hk, chK_at hk, chK_at hk]
    by_cases hj : 64 * m + k < a.length
    · have e1 : a[64 * m + k]? = some a[64 * m + k] := List.getElem?_eq_getElem hj
      have e2 : b[64 * m + k]? = some b[64 * m + k] := List.getElem?_eq_getElem (by omega)
      have e3 : c[64 * m + k]? = some c[64 * m + k] := List.getElem?_eq_getElem (by omega)
      have := h _ _ _ _ e1 e2 e3
      rw [e1, e2, e3]
      exact this
    · rw [List.getElem?_eq_none (by omega), List.getElem?_eq_none (by omega), List.getElem?_eq_none (by omega)]; rfl
  · have l1 := chK_le a m
    have l2 := chK_le b m
    have l3 := chK_le c m
    rw [List.getElem?_eq_none (by omega), List.getElem?_eq_none (by omega), List.getElem?_eq_none (by omega)]; rfl
theorem vlA_lin {ar : Arr} {ne : Int} {g : Grd} {a b c : List Nat} (h1 : a.length = b.length) (h2 : a.length = c.length) (h : ∀ (j : Nat) (x y z : Nat), a[j]? = some x → b[j]? = some y → c[j]? = some z → vI z = vI x + vI y) (cl : Int) : ∀ l : List (Int × Int),
    (vlA ⟨ar, ne, c, g⟩ cl [] l).1 = ((vlA ⟨ar, ne, a, g⟩ cl [] l).1.1 + (vlA ⟨ar, ne, b, g⟩ cl [] l).1.1, (vlA ⟨ar, ne, a, g⟩ cl [] l).1.2 + (vlA ⟨ar, ne, b, g⟩ cl [] l).1.2)
  | [] => rfl
  | y :: l => by
    have ih := vlA_lin (ar := ar) (ne := ne) (g := g) h1 h2 h cl l
    have e : ∀ q : List Nat, vlA ⟨ar, ne, q, g⟩ cl [] (y :: l) = l.foldl (vlF ⟨ar, ne, q, g⟩ cl []) (vlF ⟨ar, ne, q, g⟩ cl [] ((0, 0), 0) y) := fun _ => rfl
    have hs : ∀ k, sAt (smpS ⟨ar, ne, c, g⟩ y) k = sAt (smpS ⟨ar, ne, a, g⟩ y) k + sAt (smpS ⟨ar, ne, b, g⟩ y) k := fun k => sAt_lin h1 h2 h _ k
    rw [e, e, e, vlA_add, vlA_add, vlA_add, vlF_nil, vlF_nil, vlF_nil, ih]
    show (_, _) = (_, _)
    by_cases q : inR 0 (smpI ar (spI g cl) y) 60 = true
    · rw [if_pos q, if_pos q, if_pos q]
      unfold reI imI
      simp only [hs, Prod.mk.injEq]
      omega
    · rw [if_neg q, if_neg q, if_neg q]
      simp only [Prod.mk.injEq]
      omega
theorem mg_pair {n : Nat} (hn : n ≤ 1600) (A B C : Nat → Int × Int) (hA : ∀ k, k < n → (-10000000 ≤ (A k).1 ∧ (A k).1 ≤ 10000000) ∧ -10000000 ≤ (A k).2 ∧ (A k).2 ≤ 10000000) (hB : ∀ k, k < n → (-10000000 ≤ (B k).1 ∧ (B k).1 ≤ 10000000) ∧ -10000000 ≤ (B k).2 ∧ (B k).2 ≤ 10000000) (hC : ∀ k, k < n → C k = ((A k).1 + (B k).1, (A k).2 + (B k).2)) :
    mgR [(List.range n).map fun k => czP (A k), (List.range n).map fun k => czP (B k)] = ((List.range n).map fun k => czP (C k), 0) := by
  obtain ⟨X, hX⟩ : ∃ X, X = (List.range n).map fun k => czP (A k) := ⟨_, rfl⟩
  obtain ⟨Y, hY⟩ : ∃ Y, Y = (List.range n).map fun k => czP (B k) := ⟨_, rfl⟩
  have lX : X.length = n := by rw [hX, List.length_map, List.length_range]
  have lY : Y.length = n := by rw [hY, List.length_map, List.length_range]
  have aX : ∀ k, k < n → atZ X k = czP (A k) := fun k hk => by unfold atZ; rw [hX, List.getD_eq_getElem?_getD, List.getElem?_map, List.getElem?_range hk]; rfl
  have aY : ∀ k, k < n → atZ Y k = czP (B k) := fun k hk => by unfold atZ; rw [hY, List.getD_eq_getElem?_getD, List.getElem?_map, List.getElem?_range hk]; rfl
  rw [← hX, ← hY]
  have hd : hdN [X, Y] = n := lX
  have e1 : (decide (([X, Y] : List (List (Nat × Nat))).length = 0) || [X, Y].any (neqB [X, Y])) = false := by
    simp [neqB, hd, lX, lY]
  have hc : ∀ k, k < n → peS (colZ [X, Y] k) = 0 ∧ smS (colZ [X, Y] k) = C k := fun k hk => by
    have ec : colZ [X, Y] k = [czP (A k), czP (B k)] := by
      show [atZ _ k, atZ _ k] = _
      rw [aX k hk, aY k hk]
    obtain ⟨⟨v1, v2⟩, v3, v4⟩ := hA k hk
    obtain ⟨⟨w1, w2⟩, w3, w4⟩ := hB k hk
    obtain ⟨p1, p2⟩ := cz_ok (x := A k) (by omega) (by omega)
    obtain ⟨q1, q2⟩ := cz_ok (x := B k) (by omega) (by omega)
    rw [ec]
    refine ⟨?_, ?_⟩
    · unfold peS
      rw [if_neg (fun q => q p1)]
      unfold peS
      rw [if_neg (fun q => q q1)]; rfl
    · show smF (smF (0, 0) _) _ = _
      unfold smF
      rw [p2, q2, hC k hk]
      simp
  have em : ∀ m k, k + m ≤ n → mgS [X, Y] k m = 0 := by
    intro m
    induction m with
    | zero => intro k _; rfl
    | succ m ih =>
      intro k hk
      unfold mgS
      rw [if_neg (fun q => q (hc k (by omega)).1)]
      exact ih (k + 1) (by omega)
  unfold mgR
  rw [if_neg (by rw [e1]; decide), hd, if_neg (by simp; omega), if_neg (fun q => q (em _ 0 (by omega)))]
  congr 1
  unfold smL
  rw [List.map_map]
  refine List.map_congr_left fun k hk => ?_
  show czP (smS _) = czP _
  rw [(hc k (List.mem_range.1 hk)).2]
theorem img_ok {t : Tsk} (h : (ckT t).2 = 0) : imgR t = (rimF t (evL t) (clN t), 0) := by
  unfold imgR
  rw [if_neg (fun q => q h), rim_ev]
set_option maxHeartbeats 4000000 in
set_option maxRecDepth 100000 in
theorem focusLinear_p (t : Tsk) (ne2 : Int) (bf2 : List Nat) : PC Tryz.prog 12 [.agg (tskC t), .agg (mtxC ne2 bf2)] (.v (.bool (true))) := by
  refine pc_of_awpN Tryz.func12 rfl Tryz.ntmps12 (rs := [.tmp 4]) Tryz.results12 (by simp) fun w0 hmine hrnd hpn => ?_
  refine awp_seq ?_
  refine awp_region 3 mixed (by kernel_rfl) ?_
  refine rg_q (q_box rfl (by exact .inr ⟨_, rfl⟩)) ?_
  refine rg_q (q_box rfl (by exact .inr ⟨_, rfl⟩)) ?_
  refine rg_q (q_a rfl) ?_
  refine rn ?_
  change Awp _ _ _ _ _
  refine awp_seq ?_
  refine awp_seq ?_
  refine awp_region 2 mixed (by kernel_rfl) ?_
  refine rg_q (q_call en18 .nil rfl (awake5_p)) ?_
  refine rg_q (q_not rfl) ?_
  refine rn ?_
  change Awp _ _ _ _ _
  refine awp_cond rfl (fun hc1 => ?_) (fun hc1 => ?_)
  ·
    simp at hc1
  ·
    (try simp only [nb, ne_eq] at hc1)
    refine awp_skip ?_
    change Awp _ _ _ _ _
    refine awp_seq ?_
    refine awp_seq ?_
    refine awp_region 14 mixed (by kernel_rfl) ?_
    refine rg_q (q_loadA sz37 rfl rfl rfl) ?_
    refine rg_q (q_call en19 (.cons rfl .nil) rfl (light_p _)) ?_
    refine rg_q (q_not rfl) (rg_q (q_m rfl) ?_)
    refine rg_g rfl rfl (fun hG => (q_fieldAddr fld31_1 rfl)) ?_
    refine rg_g rfl rfl (fun hG => (q_load sz29 rfl rfl)) ?_
    refine rg_g rfl rfl (fun hG => (q_len isl29 rfl (by exact len_map _ _))) ?_
    refine rg_g rfl rfl (fun hG => (q_gtr rfl rfl)) ?_
    refine rg_pick rfl rfl rfl rfl rfl rfl ?_
    refine rg_q (q_m rfl) ?_
    refine rg_g rfl rfl (fun hG => (q_loadA sz37 rfl rfl rfl)) ?_
    refine rg_g rfl rfl (fun hG => (q_call en24 (.cons rfl .nil) rfl (rtaskErr_p _))) ?_
    refine rg_g rfl rfl (fun hG => (q_neq rfl rfl)) ?_
    refine rg_pick rfl rfl rfl rfl rfl rfl ?_
    refine rn ?_
    change Awp _ _ _ _ _
    refine awp_cond rfl (fun hc3 => ?_) (fun hc3 => ?_)
    ·
      (try simp only [nb, ne_eq] at hc3)
      refine awp_seq ?_
      refine awp_region 1 mixed (by kernel_rfl) ?_
      refine rg_q (q_a rfl) ?_
      refine rn ?_
      change Awp _ _ _ _ _
      refine awp_ret ?_
      refine ⟨_, (.cons (.tmp (by exact .d _)) .nil), ?_⟩
      rfl
    ·
      (try simp only [nb, ne_eq] at hc3)
      obtain ⟨⟨hlt0, hl260⟩, hck⟩ := hc3
      obtain ⟨hl1, hl2⟩ := lit_le hlt0
      have hok : TskOk t := ckT_ok hck
      have hel := hok.el
      have hne1 := hok.n1
      have hne2 := hok.n2
      have hb0 : 0 < t.bf.length := by
        have := Int.mul_pos (show 0 < t.ne by omega) (show 0 < t.ne by omega)
        have := hok.nl
        omega
      refine awp_skip ?_
      change Awp _ _ _ _ _
      refine awp_seq ?_
      refine awp_regionM 8 [none, none, none, some 35, some 5, some 6, some 5, some 6] mixed (by kernel_rfl) ?_
      refine rgm_q rfl (q_loadA sz37 rfl rfl rfl) ?_
      refine rgm_q rfl (q_call en21 (.cons rfl .nil) rfl (rcopyT_p _ (by omega) (by omega))) ?_
      refine rgm_q rfl (q_loadA sz37 rfl rfl rfl) ?_
      refine rgm_m (k := 35) rfl rfl (by rfl) (m_callL1 en21 (rcopyO_p t (by omega) hb0 (by omega)) rfl rfl) ?_
      refine rgm_m (k := 5) rfl rfl (by rfl) (m_alloc zr37 rfl rfl) ?_
      refine rgm_m (k := 6) rfl rfl (by rfl) (m_alloc zr37 rfl rfl) ?_
      refine rgm_m (k := 5) rfl rfl (by rfl) (m_store sz37 rfl rfl (by exact .inr ⟨_, rfl⟩) rfl rfl (by decide) rfl) ?_
      refine rgm_m (k := 6) rfl rfl (by rfl) (m_storeAg sz37 rfl rfl rfl rfl rfl rfl rfl) ?_
      refine rgm_nil (aops_nil ?_)
      change Awp _ _ _ _ _
      refine awp_seq ?_
      refine awp_region 3 mixed (by kernel_rfl) ?_
      refine rg_q (q_loadA (ds := [_, _]) sz31 rfl rfl rfl) ?_
      refine rg_q (q_call en62 (.cons rfl .nil) rfl (copyMatrix5_p _ _ (by omega))) ?_
      refine rg_q (q_fieldAddr_ref fld37_1 rfl) ?_
      refine rg_nil ?_
      refine aops_store sz31 rfl rfl (by exact .inr ⟨_, rfl⟩) rfl rfl (by exact Nat.le_of_ble_eq_true rfl) rfl ?_
      refine aops_nil ?_
      change Awp _ _ _ _ _
      refine awp_seq ?_
      refine awp_seq ?_
      refine awp_region 13 mixed (by kernel_rfl) ?_
      refine rg_q (q_load_refA sz37 rfl rfl rfl rfl) ?_
      refine rg_q (q_call en24 (.cons rfl .nil) rfl (rtaskErr_p ⟨t.ar, ne2, bf2, t.g⟩)) ?_
      refine rg_q (q_neq rfl rfl) (rg_q (q_m rfl) ?_)
      refine rg_g rfl rfl (fun hG => (q_fieldAddr fld31_1 rfl)) ?_
      refine rg_g rfl rfl (fun hG => (q_load sz29 rfl rfl)) ?_
      refine rg_g rfl rfl (fun hG => (q_len isl29 rfl (by exact len_map _ _))) ?_
      refine rg_g rfl rfl (fun hG => (q_fieldAddr fld37_1 rfl)) ?_
      refine rg_g rfl rfl (fun hG => (q_fieldAddr fld31_1 rfl)) ?_
      refine rg_g rfl rfl (fun hG => (q_load sz29 rfl rfl)) ?_
      refine rg_g rfl rfl (fun hG => (q_len isl29 rfl (by exact len_map _ _))) ?_
      refine rg_g rfl rfl (fun hG => (q_neq rfl rfl)) ?_
      refine rg_pick rfl rfl rfl rfl rfl rfl ?_
      refine rn ?_
      change Awp _ _ _ _ _
      refine awp_cond rfl (fun hc7 => ?_) (fun hc7 => ?_)
      ·
        (try simp only [nb, ne_eq] at hc7)
        refine awp_seq ?_
        refine awp_region 1 mixed (by kernel_rfl) ?_
        refine rg_q (q_a rfl) ?_
        refine rn ?_
        change Awp _ _ _ _ _
        refine awp_ret ?_
        refine ⟨_, (.cons (.tmp (by exact .d _)) .nil), ?_⟩
        rfl
      ·
        (try simp only [nb, ne_eq] at hc7)
        obtain ⟨hck2, hlen0⟩ := hc7
        have hlen : t.bf.length = bf2.length := by omega
        have hok2 : TskOk ⟨t.ar, ne2, bf2, t.g⟩ := ckT_ok hck2
        have hnee : ne2 = t.ne := by have hq : (t.ar.el.length : Int) = ne2 := hok2.el; omega
        have hwl : ∀ (j : Nat) (x y z : Nat), t.bf[j]? = some x → bf2[j]? = some y → (lnB t.bf bf2 bf2.length)[j]? = some z → vI z = vI x + vI y := fun j x y z h1 h2 h3 => by
          rw [lnB_get hlen h1 h2] at h3
          cases h3
          exact (adW_is (hok.wh x (List.mem_of_getElem? h1)) (hok2.wh y (List.mem_of_getElem? h2))).2
        refine awp_skip ?_
        change Awp _ _ _ _ _
        refine awp_seq ?_
        refine awp_seq ?_
        refine awp_region 1 mixed (by kernel_rfl) ?_
        refine rg_q (q_a rfl) ?_
        refine rn ?_
        change Awp _ _ _ _ _
        refine awp_block ?_
        refine awp_loopH [7, 52, 53, 54, 55, 56, 57, 58, 59, 60, 61, 62, 63, 64, 65, 66, 67, 68, 69, 70, 71, 72, 73, 74, 75] [35] (α := Nat) (fun k => [(7, T.i (k : Int))]) (fun k => [(35, .row 117 1 ((lnB t.bf bf2 k).map fC))]) (fun k => k ≤ bf2.length) (fun k => bf2.length - k) 0 (Nat.zero_le _) ?_ ?_
        · exact le_head (ms := [35]) (by repeat (exact Out.refl _)) ⟨(by rfl), trivial⟩ ⟨(by rfl), trivial⟩ rfl rfl rfl rfl
        ·
          intro k hk
          refine awp_seq ?_
          refine awp_seq ?_
          refine awp_region 5 mixed (by kernel_rfl) ?_
          refine rg_q (q_m rfl) (rg_q (q_fieldAddr fld31_1 rfl) (rg_q (q_load sz29 rfl rfl) ?_))
          refine rg_q (q_len isl29 rfl (by exact len_map _ _)) ?_
          refine rg_q (q_lss rfl rfl) ?_
          refine rn ?_
          change Awp _ _ _ _ _
          refine awp_len (t := 54) rfl (fun hl54 => ?_)
          (try simp only [List.length_map] at hl54)
          refine awp_cond rfl (fun hc10 => ?_) (fun hc10 => ?_)
          ·
            (try simp only [nb, ne_eq] at hc10)
            have hlt : k < bf2.length := by omega
            obtain ⟨x, hx⟩ : ∃ x, t.bf[k]? = some x := ⟨_, List.getElem?_eq_getElem (by omega)⟩
            obtain ⟨y, hy⟩ : ∃ y, bf2[k]? = some y := ⟨_, List.getElem?_eq_getElem hlt⟩
            have hadd := (adW_is (hok.wh x (List.mem_of_getElem? hx)) (hok2.wh y (List.mem_of_getElem? hy))).1
            have hat : ((lnB t.bf bf2 k).map fC)[k]? = some (fC x) := by rw [List.getElem?_map, lnB_at hlen hx]; rfl
            have hset : ((lnB t.bf bf2 k).map fC).set k (setCs (fC x) 0 [fd (adW x y)]) = (lnB t.bf bf2 (k + 1)).map fC := by
              rw [← lnB_set hlen hx hy, List.map_set]; rfl
            have hll : ((lnB t.bf bf2 k).map fC).length = t.bf.length := by rw [List.length_map, lnB_len hlen (by omega)]
            refine awp_skip ?_
            change Awp _ _ _ _ _
            refine awp_seq ?_
            refine awp_block ?_
            refine awp_region 17 mixed (by kernel_rfl) ?_
            refine rg_q (q_fieldAddr_ref fld37_1 rfl) (rg_q (q_fieldAddr_ref fld31_1 rfl) ?_)
            refine rg_q (q_load_tb (x := .rs _) sz29 rfl rfl rfl) ?_
            refine rg_q (q_m rfl) (rg_q (q_fieldAddr_ref fld37_1 rfl) (rg_q (q_fieldAddr_ref fld31_1 rfl) ?_))
            refine rg_q (q_load_tb (x := .rs _) sz29 rfl rfl rfl) ?_
            refine rg_q (q_m rfl) ?_
            refine rg_q (q_indexAddr_rs sl29 rfl rfl rfl (by omega) (by omega)) ?_
            refine rg_q (q_load_row sz117 rfl rfl (i := k) (j := 0) rfl hat rfl) ?_
            refine rg_q (q_fieldAddr fld31_1 rfl) (rg_q (q_load sz29 rfl rfl) (rg_q (q_m rfl) ?_))
            refine rg_q (q_indexAddr sl29 rfl rfl (by omega) (map_at (k := k) (by omega) hy)) ?_
            refine rg_q (q_load sz117 rfl rfl) ?_
            refine rg_q (q_fbin (by decide) rfl rfl hadd) ?_
            refine rg_q (q_indexAddr_rs sl29 rfl rfl rfl (by omega) (by omega)) ?_
            refine rg_nil ?_
            refine aops_store_row sz117 rfl rfl (by exact .inl rfl) rfl rfl (i := k) (j := 0) rfl hat (by decide) hset ?_
            refine aops_nil ?_
            change Awp _ _ _ _ _
            refine awp_region 3 mixed (by kernel_rfl) ?_
            refine rg_q (q_m rfl) ?_
            refine rg_q (q_add rfl rfl (In64.mk (by omega) (by omega))) ?_
            refine rg_q (q_a rfl) ?_
            refine rn ?_
            refine ⟨k + 1, by omega, by omega, ?_⟩
            exact le_head (ms := [35]) (by repeat (first | exact Out.head rfl rfl | (refine Out.put ?_ rfl) | (refine Out.site ?_ rfl))) ⟨(by rfl), trivial⟩ ⟨(by rfl), trivial⟩ rfl rfl rfl rfl
          ·
            (try simp only [nb, ne_eq] at hc10)
            have hkn : k = bf2.length := by omega
            subst hkn
            refine awp_exit ?_
            change Awp _ _ _ _ _
            refine awp_seq ?_
            refine awp_seq ?_
            refine Awp.le (le_freezeTB 6 35 12 rfl rfl rfl rfl hmine) ?_
            refine Awp.le (le_boxT 6 (tskC ⟨t.ar, t.ne, lnB t.bf bf2 bf2.length, t.g⟩) rfl rfl (by intro j d h; match j, h with | 0, h | 1, h | 2, h | 3, h | 4, h | 5, h | 6, h | 7, h | 8, h | 9, h | 10, h | 11, h | 12, h | 13, h | 14, h | 15, h | 16, h | 17, h => cases h; rfl)) ?_
            refine awp_region 3 mixed (by kernel_rfl) ?_
            refine rg_q (q_load_refA sz37 rfl rfl rfl rfl) ?_
            refine rg_q (q_call en24 (.cons rfl .nil) rfl (rtaskErr_p ⟨t.ar, t.ne, lnB t.bf bf2 bf2.length, t.g⟩)) ?_
            refine rg_q (q_neq rfl rfl) ?_
            refine rn ?_
            change Awp _ _ _ _ _
            refine awp_cond rfl (fun hc13 => ?_) (fun hc13 => ?_)
            ·
              (try simp only [nb, ne_eq] at hc13)
              refine awp_seq ?_
              refine awp_region 1 mixed (by kernel_rfl) ?_
              refine rg_q (q_a rfl) ?_
              refine rn ?_
              change Awp _ _ _ _ _
              refine awp_ret ?_
              refine ⟨_, (.cons (.tmp (by exact .d _)) .nil), ?_⟩
              rfl
            ·
              (try simp only [nb, ne_eq] at hc13)
              have hck3 : (ckT ⟨t.ar, t.ne, lnB t.bf bf2 bf2.length, t.g⟩).2 = 0 := hc13
              have hok3 : TskOk ⟨t.ar, t.ne, lnB t.bf bf2 bf2.length, t.g⟩ := ckT_ok hck3
              have hcl := cl_le hok
              have hz4 : mgR [rimF t (evL t) (clN t), rimF ⟨t.ar, ne2, bf2, t.g⟩ (evL ⟨t.ar, ne2, bf2, t.g⟩) (clN ⟨t.ar, ne2, bf2, t.g⟩)] = (rimF ⟨t.ar, t.ne, lnB t.bf bf2 bf2.length, t.g⟩ (evL ⟨t.ar, t.ne, lnB t.bf bf2 bf2.length, t.g⟩) (clN ⟨t.ar, t.ne, lnB t.bf bf2 bf2.length, t.g⟩), 0) := by
                subst hnee
                refine mg_pair (n := clN t) hcl (fun c => (vlA t (c : Int) [] (evL t)).1) (fun c => (vlA ⟨t.ar, t.ne, bf2, t.g⟩ (c : Int) [] (evL t)).1) (fun c => (vlA ⟨t.ar, t.ne, lnB t.bf bf2 bf2.length, t.g⟩ (c : Int) [] (evL t)).1) (fun k _ => ?_) (fun k _ => ?_) (fun k _ => ?_)
                · have := vs_in hok (k : Int) (ev_ok hok).2
                  omega
                · have := vs_in hok2 (k : Int) (ev_ok hok).2
                  omega
                · exact vlA_lin (ar := t.ar) (ne := t.ne) (g := t.g) hlen (by rw [lnB_len hlen (by omega)]) hwl (k : Int) (evL t)
              refine awp_skip ?_
              change Awp _ _ _ _ _
              refine awp_seq ?_
              refine awp_region 8 mixed (by kernel_rfl) ?_
              refine rg_q (q_loadA sz37 rfl rfl rfl) ?_
              refine rg_q (q_call en21 (.cons rfl .nil) rfl (rcopyT_p _ (by omega) (by omega))) ?_
              refine rg_q (q_call en37 (.cons rfl .nil) rfl ((by have q := image5_p t; rw [img_ok hck] at q; exact q))) ?_
              refine rg_q (q_move (x := .d (.tup _)) rfl) (rg_q (q_extract rfl rfl) (rg_q (q_extract rfl rfl) (rg_q (q_assign (x := .d (.sl _ _)) rfl) (rg_q (q_a rfl) ?_))))
              refine rs (awp_region 7 mixed (by kernel_rfl) ?_)
              refine rg_q (q_load_refA sz37 rfl rfl rfl rfl) ?_
              refine rg_q (q_call en37 (.cons rfl .nil) rfl ((by have q := image5_p ⟨t.ar, ne2, bf2, t.g⟩; rw [img_ok hck2] at q; exact q))) ?_
              refine rg_q (q_move (x := .d (.tup _)) rfl) (rg_q (q_extract rfl rfl) (rg_q (q_extract rfl rfl) (rg_q (q_assign (x := .d (.sl _ _)) rfl) (rg_q (q_a rfl) ?_))))
              refine rs (awp_region 7 mixed (by kernel_rfl) ?_)
              refine rg_q (q_load_refA sz37 rfl rfl rfl rfl) ?_
              refine rg_q (q_call en37 (.cons rfl .nil) rfl ((by have q := image5_p ⟨t.ar, t.ne, lnB t.bf bf2 bf2.length, t.g⟩; rw [img_ok hck3] at q; exact q))) ?_
              refine rg_q (q_move (x := .d (.tup _)) rfl) (rg_q (q_extract rfl rfl) (rg_q (q_extract rfl rfl) (rg_q (q_assign (x := .d (.sl _ _)) rfl) (rg_q (q_a rfl) ?_))))
              refine rs (awp_region 9 mixed (by kernel_rfl) ?_)
              refine rg_q (q_move (x := .d (.sl _ _)) rfl) (rg_q (q_move (x := .d (.sl _ _)) rfl) ?_)
              refine rg_q (q_buildSlice sl105 zr72 rfl rfl (by decide) (.cons rfl (by exact .inl rfl) (.cons rfl (by exact .inl rfl) .nil)) ⟨rfl, rfl, rfl, rfl, trivial⟩ rfl (by decide) rfl) ?_
              refine rg_q (q_call en60 (.cons rfl .nil) rfl ((by have q := mergedI_p [rimF t (evL t) (clN t), rimF ⟨t.ar, ne2, bf2, t.g⟩ (evL ⟨t.ar, ne2, bf2, t.g⟩) (clN ⟨t.ar, ne2, bf2, t.g⟩)]; rw [hz4] at q; exact q))) ?_
              refine rg_q (q_move (x := .d (.tup _)) rfl) (rg_q (q_extract rfl rfl) (rg_q (q_extract rfl rfl) (rg_q (q_assign (x := .d (.sl _ _)) rfl) (rg_q (q_a rfl) ?_))))
              refine rs (awp_region 20 mixed (by kernel_rfl) ?_)
              refine rg_q (q_m rfl) (rg_q (q_eql rfl rfl) (rg_q (q_m rfl) ?_))
              refine rg_g rfl rfl (fun hG => (q_m rfl)) ?_
              refine rg_g rfl rfl (fun hG => (q_eql rfl rfl)) ?_
              refine rg_pick rfl rfl rfl rfl rfl rfl ?_
              refine rg_q (q_m rfl) ?_
              refine rg_g rfl rfl (fun hG => (q_m rfl)) ?_
              refine rg_g rfl rfl (fun hG => (q_eql rfl rfl)) ?_
              refine rg_pick rfl rfl rfl rfl rfl rfl ?_
              refine rg_q (q_m rfl) ?_
              refine rg_g rfl rfl (fun hG => (q_m rfl)) ?_
              refine rg_g rfl rfl (fun hG => (q_eql rfl rfl)) ?_
              refine rg_pick rfl rfl rfl rfl rfl rfl ?_
              refine rg_q (q_m rfl) ?_
              refine rg_g rfl rfl (fun hG => (q_move (x := .d (.sl _ _)) rfl)) ?_
              refine rg_g rfl rfl (fun hG => (q_move (x := .d (.sl _ _)) rfl)) ?_
              refine rg_g rfl rfl (fun hG => (q_call en38 (.cons rfl (.cons rfl .nil)) rfl (sameNums_p _ _))) ?_
              refine rg_pick rfl rfl rfl rfl rfl rfl ?_
              refine rg_q (q_a rfl) ?_
              refine rn ?_
              change Awp _ _ _ _ _
              refine awp_ret ?_
              refine ⟨_, (.cons (.tmp (by exact .d _)) .nil), ?_⟩
              simp [retD]
end Go.Proofs.YtphlaicnmmglhaaGreat.Am.M
