/- Contracts over the abstract machine: a flaw is written and read: the code. Conditions: none. -/
import Derived.Test.YtkbdnkjjklbddaaGreatDoorB7
set_option linter.unusedVariables false
set_option linter.unusedSimpArgs false
-- mini
set_option maxRecDepth 100000
namespace Go.Proofs.YtkbdnkjjklbddaaGreatDoor.Am.M
open Go
theorem numbersR3_p (b0 : Nat) (x : Flw) (hk : x.kd = 0) : PCSX Tryz.prog NGB GB b0 27 [.d (.v (ptr b0 0))] [.box (flwC x)] (.d (.sl 1 [[.v (ptr b0 1)], [.v (ptr b0 2)], [.v (ptr b0 6)]])) [.box (flwC x)] := by
 refine pcsx_of_awp gb_low Tryz.func27 rfl Tryz.ntmps27 (rs := [.tmp 2]) Tryz.results27 (by simp) 1000 b0 rfl fun w0 hrnd hGB hNG => ?_
 have hG : ∀ w, ExtM w0 w → GW w := fun w h => (hGB w h).1
 refine awp_seq ?_
 refine xa 1 ?_
 refine rg_q (q_assign (x := .d (.sl _ _)) rfl) ?_
 refine rs (awp_seq ?_)
 refine xa 3 ?_
 refine rg_q (q_m rfl) ?_
 refine rg_q (q_nilCheck_raw rfl) ?_
 refine rg_q (q_fieldAddr_raw fld39_0 rfl) ?_
 refine rg_nil ?_
 refine aops_le (le_reref 1000 5 rfl rfl) ?_
 refine aops_q rfl (q_load_ref sz3 rfl rfl rfl) ?_
 refine aops_q rfl (q_eql rfl rfl) ?_
 refine aops_nil ?_
 change Awp _ _ _ _ _
 refine awp_cond rfl (fun hc1 => ?_) (fun hc1 => ?_)
 ·
  (try simp only [nb, ne_eq] at hc1)
  refine awp_seq ?_
  refine xa 13 ?_
  refine rg_q (q_m rfl) ?_
  refine rg_q (q_nilCheck_raw rfl) ?_
  refine rg_q (q_fieldAddr_raw fld39_1 rfl) ?_
  refine rg_q (q_fieldAddr_raw fld37_0 rfl) ?_
  refine rg_q (q_m rfl) ?_
  refine rg_q (q_nilCheck_raw rfl) ?_
  refine rg_q (q_fieldAddr_raw fld39_1 rfl) ?_
  refine rg_q (q_fieldAddr_raw fld37_1 rfl) ?_
  refine rg_q (q_m rfl) ?_
  refine rg_q (q_nilCheck_raw rfl) ?_
  refine rg_q (q_fieldAddr_raw fld39_4 rfl) ?_
  refine rg_q (q_buildSlice sl77 zr87 rfl rfl (by decide) (.cons rfl (by exact .inl rfl) (.cons rfl (by exact .inl rfl) (.cons rfl (by exact .inl rfl) .nil))) ⟨rfl, rfl, rfl, rfl, rfl, rfl, trivial⟩ rfl (by decide) rfl) ?_
  refine rg_q (q_assign (x := .d (.sl _ _)) rfl) ?_
  refine xc (awp_ret ?_)
  exact end_mk (.inl rfl) [46] (.tmp rfl) (by repeat (first | exact trivial | refine ⟨rfl, ?_⟩)) rfl
 ·
  simp [hk] at hc1
theorem numbersR7_p (b0 : Nat) (x : Flw) (hk : x.kd ≠ 0) : PCSX Tryz.prog NGB GB b0 27 [.d (.v (ptr b0 0))] [.box (flwC x)] (.d (.sl 1 [[.v (ptr b0 1)], [.v (ptr b0 2)], [.v (ptr b0 3)], [.v (ptr b0 4)], [.v (ptr b0 5)], [.v (ptr b0 6)], [.v (ptr b0 7)]])) [.box (flwC x)] := by
 refine pcsx_of_awp gb_low Tryz.func27 rfl Tryz.ntmps27 (rs := [.tmp 2]) Tryz.results27 (by simp) 1000 b0 rfl fun w0 hrnd hGB hNG => ?_
 have hG : ∀ w, ExtM w0 w → GW w := fun w h => (hGB w h).1
 refine awp_seq ?_
 refine xa 1 ?_
 refine rg_q (q_assign (x := .d (.sl _ _)) rfl) ?_
 refine rs (awp_seq ?_)
 refine xa 3 ?_
 refine rg_q (q_m rfl) ?_
 refine rg_q (q_nilCheck_raw rfl) ?_
 refine rg_q (q_fieldAddr_raw fld39_0 rfl) ?_
 refine rg_nil ?_
 refine aops_le (le_reref 1000 5 rfl rfl) ?_
 refine aops_q rfl (q_load_ref sz3 rfl rfl rfl) ?_
 refine aops_q rfl (q_eql rfl rfl) ?_
 refine aops_nil ?_
 change Awp _ _ _ _ _
 refine awp_cond rfl (fun hc1 => ?_) (fun hc1 => ?_)
 ·
  simp [hk] at hc1
 ·
  (try simp only [nb, ne_eq] at hc1)
  refine awp_skip ?_
  change Awp _ _ _ _ _
  refine awp_seq ?_
  refine xa 27 ?_
  refine rg_q (q_m rfl) ?_
  refine rg_q (q_nilCheck_raw rfl) ?_
  refine rg_q (q_fieldAddr_raw fld39_1 rfl) ?_
  refine rg_q (q_fieldAddr_raw fld37_0 rfl) ?_
  refine rg_q (q_m rfl) ?_
  refine rg_q (q_nilCheck_raw rfl) ?_
  refine rg_q (q_fieldAddr_raw fld39_1 rfl) ?_
  refine rg_q (q_fieldAddr_raw fld37_1 rfl) ?_
  refine rg_q (q_m rfl) ?_
  refine rg_q (q_nilCheck_raw rfl) ?_
  refine rg_q (q_fieldAddr_raw fld39_2 rfl) ?_
  refine rg_q (q_fieldAddr_raw fld37_0 rfl) ?_
  refine rg_q (q_m rfl) ?_
  refine rg_q (q_nilCheck_raw rfl) ?_
  refine rg_q (q_fieldAddr_raw fld39_2 rfl) ?_
  refine rg_q (q_fieldAddr_raw fld37_1 rfl) ?_
  refine rg_q (q_m rfl) ?_
  refine rg_q (q_nilCheck_raw rfl) ?_
  refine rg_q (q_fieldAddr_raw fld39_3 rfl) ?_
  refine rg_q (q_m rfl) ?_
  refine rg_q (q_nilCheck_raw rfl) ?_
  refine rg_q (q_fieldAddr_raw fld39_4 rfl) ?_
  refine rg_q (q_m rfl) ?_
  refine rg_q (q_nilCheck_raw rfl) ?_
  refine rg_q (q_fieldAddr_raw fld39_5 rfl) ?_
  refine rg_q (q_buildSlice sl77 zr87 rfl rfl (by decide) (.cons rfl (by exact .inl rfl) (.cons rfl (by exact .inl rfl) (.cons rfl (by exact .inl rfl) (.cons rfl (by exact .inl rfl) (.cons rfl (by exact .inl rfl) (.cons rfl (by exact .inl rfl) (.cons rfl (by exact .inl rfl) .nil))))))) ⟨rfl, rfl, rfl, rfl, rfl, rfl, rfl, rfl, rfl, rfl, rfl, rfl, rfl, rfl, trivial⟩ rfl (by decide) rfl) ?_
  refine rg_q (q_assign (x := .d (.sl _ _)) rfl) ?_
  refine xc (awp_ret ?_)
  exact end_mk (.inl rfl) [46] (.tmp rfl) (by repeat (first | exact trivial | refine ⟨rfl, ?_⟩)) rfl
theorem modeR_p (b o : Nat) : PC Tryz.prog 36 [.v (ptr b o)] (.sl 1 [[.v (ptr b o)], [.v (ptr b (o + 1))], [.v (ptr b (o + 2))], [.v (ptr b (o + 3))]]) := by
 refine pc_of_awp Tryz.func36 rfl Tryz.ntmps36 (rs := [.tmp 2]) Tryz.results36 (by simp) fun w0 => ?_
 refine awp_seq ?_
 refine xa 1 ?_
 refine rg_q (q_assign (x := .d (.sl _ _)) rfl) ?_
 refine rs (xa 14 ?_)
 refine rg_q (q_m rfl) ?_
 refine rg_q (q_nilCheck_raw rfl) ?_
 refine rg_q (q_fieldAddr_raw fld24_0 rfl) ?_
 refine rg_q (q_m rfl) ?_
 refine rg_q (q_nilCheck_raw rfl) ?_
 refine rg_q (q_fieldAddr_raw fld24_1 rfl) ?_
 refine rg_q (q_m rfl) ?_
 refine rg_q (q_nilCheck_raw rfl) ?_
 refine rg_q (q_fieldAddr_raw fld24_2 rfl) ?_
 refine rg_q (q_m rfl) ?_
 refine rg_q (q_nilCheck_raw rfl) ?_
 refine rg_q (q_fieldAddr_raw fld24_3 rfl) ?_
 refine rg_q (q_buildSlice sl77 zr87 rfl rfl (by decide) (.cons rfl (by exact .inl rfl) (.cons rfl (by exact .inl rfl) (.cons rfl (by exact .inl rfl) (.cons rfl (by exact .inl rfl) .nil)))) ⟨rfl, rfl, rfl, rfl, rfl, rfl, rfl, rfl, trivial⟩ rfl (by decide) rfl) ?_
 refine rg_q (q_assign (x := .d (.sl _ _)) rfl) ?_
 refine xc (awp_ret ?_)
 refine ⟨_, xk1, ?_⟩
 rfl

def osK (k : Int) : List Nat := if k = 0 then [1, 2, 6] else [1, 2, 3, 4, 5, 6, 7]
def kwB (k : Int) : ByteArray := if k = 0 then porS else plaS
def zF (k : Int) : Flw := ⟨k, (0, 0), (0, 0), 0, 0, 0⟩
theorem osK_len (k : Int) : (osK k).length ≤ 10 := by unfold osK; split <;> decide
theorem osK_lt (k : Int) : ∀ o ∈ osK k, o < (flwC (zF k)).length := by
  show ∀ o ∈ osK k, o < 8
  unfold osK; split <;> decide
theorem numbersR_p (b0 : Nat) (x : Flw) : PCSX Tryz.prog NGB GB b0 27 [.d (.v (ptr b0 0))] [.box (flwC x)] (.d (.sl 1 ((osK x.kd).map fun o => [.v (ptr b0 o)]))) [.box (flwC x)] := by
  by_cases h : x.kd = 0
  · exact (numbersR3_p b0 x h).eqs (by unfold osK; rw [if_pos h]; rfl) rfl
  · exact (numbersR7_p b0 x h).eqs (by unfold osK; rw [if_neg h]; rfl) rfl
def flP (s : ByteArray) : Flw × Bool :=
  if rdB s porS 3 = true then (let l := (nbR s porS).1; (⟨0, (l.getD 0 0, l.getD 1 0), (0, 0), 0, l.getD 2 0, 0⟩, true))
  else if rdB s plaS 7 = true then (let l := (nbR s plaS).1; (⟨1, (l.getD 0 0, l.getD 1 0), (l.getD 2 0, l.getD 3 0), l.getD 4 0, l.getD 5 0, l.getD 6 0⟩, true))
  else (zF 0, false)
theorem rdC_0 {s : ByteArray} (h : rdB s (kwB 0) (osK 0).length = true) : rdC (flwC (zF 0)) (osK 0) s (kwB 0) = flwC (flP s).1 ∧ (flP s).2 = true := by
  have h3 : rdB s porS 3 = true := h
  unfold rdC flP
  rw [if_pos h, if_pos h3]
  exact ⟨rfl, rfl⟩
theorem rdC_1 {s : ByteArray} (h0 : rdB s (kwB 0) (osK 0).length = false) (h : rdB s (kwB 1) (osK 1).length = true) : rdC (flwC (zF 1)) (osK 1) s (kwB 1) = flwC (flP s).1 ∧ (flP s).2 = true := by
  have h3 : ¬ rdB s porS 3 = true := by rw [show rdB s porS 3 = false from h0]; decide
  have h7 : rdB s plaS 7 = true := h
  unfold rdC flP
  rw [if_pos h, if_neg h3, if_pos h7]
  exact ⟨rfl, rfl⟩
theorem flP_no {s : ByteArray} (h0 : rdB s (kwB 0) (osK 0).length = false) (h1 : rdB s (kwB 1) (osK 1).length = false) : flP s = (zF 0, false) := by
  unfold flP
  rw [if_neg (by rw [show rdB s porS 3 = false from h0]; decide), if_neg (by rw [show rdB s plaS 7 = false from h1]; decide)]
theorem rdC_k {s : ByteArray} {k : Nat} (hk : k < 2) (hall : ∀ j, j < k → rdB s (kwB (j : Int)) (osK (j : Int)).length = false) (h : rdB s (kwB (k : Int)) (osK (k : Int)).length = true) : rdC (flwC (zF (k : Int))) (osK (k : Int)) s (kwB (k : Int)) = flwC (flP s).1 ∧ (flP s).2 = true := by
  match k, hk with
  | 0, _ => exact rdC_0 h
  | 1, _ => exact rdC_1 (hall 0 (by omega)) h
theorem flaw_p (s : ByteArray) (hs : s.size ≤ 100000) : PCG Tryz.prog GB 28 [.v (.string (s))] (.tup [.agg (flwC (flP s).1), .v (.bool (flP s).2)]) := by
 refine pcg_of_awpO gb_low Tryz.func28 rfl Tryz.ntmps28 (rs := [.cell 2 39, .tmp 3]) Tryz.results28 (by simp) fun w0 hmine hrnd hpn hGB hNG => ?_
 have hG : ∀ w, ExtM w0 w → GW w := fun w h => (hGB w h).1
 refine awp_seq ?_
 refine xa 0 ?_
 refine rg_nil ?_
 refine aops_alloc zr39 rfl rfl rfl ?_
 refine aops_q rfl (q_a rfl) ?_
 refine aops_nil (xq (awp_seq ?_))
 refine xa 2 ?_
 refine rg_q (q_load_globC (us := kwL) sz76 rfl (fun w h => (hGB w h).2.2) rfl) ?_
 refine rg_q (q_m rfl) ?_
 refine xc (awp_block ?_)
 refine awp_loopH [3, 4, 5, 6, 8, 9, 10, 11, 12, 13, 14, 15, 16, 17, 18, 19] [6] (α := Nat) (fun k => [(8, T.i (k : Int))]) (fun k => []) (fun k => k ≤ 2 ∧ ∀ j, j < k → rdB s (kwB (j : Int)) (osK (j : Int)).length = false) (fun k => 2 - k) 0 ⟨Nat.zero_le _, fun j hj => by omega⟩ ?_ ?_
 · exact xh (ms := [6]) (by repeat (exact Out.refl _)) ⟨(by rfl), trivial⟩ trivial
 ·
  intro k ⟨hk, hall⟩
  refine awp_seq ?_
  refine xa 1 ?_
  refine rg_q (q_lss rfl rfl) ?_
  refine rs (awp_cond rfl (fun hc2 => ?_) (fun hc2 => ?_))
  ·
   (try simp only [nb, ne_eq] at hc2)
   have hlt : k < 2 := by omega
   have hkw : (kwL.map D.v)[(k : Int).toNat]? = some (.v (.string (kwB (k : Int)))) := by
    rw [Int.toNat_natCast]
    match k, hlt with
    | 0, _ => rfl
    | 1, _ => rfl
   refine awp_skip ?_
   change Awp _ _ _ _ _
   refine awp_seq ?_
   refine awp_block ?_
   refine awp_seq ?_
   refine xa 4 ?_
   refine rg_q (q_m rfl) ?_
   refine rg_q (q_index_ar ar76 sz9 rfl rfl (by omega) (by omega) hkw) ?_
   refine rg_q (q_a rfl) (rg_q (q_a rfl) ?_)
   refine rs (xa 2 ?_)
   refine rg_q (q_m rfl) ?_
   refine rg_q (q_build (cs := [_, _, _, _, _, _, _, _]) pl39 zr39 rfl (.cons rfl (by exact .inl rfl) .nil) ⟨⟨rfl, by decide⟩, trivial⟩ rfl) ?_
   refine rg_nil ?_
   refine aops_alloc zr39 rfl rfl rfl ?_
   refine aops_store sz39 rfl rfl (by exact .inr ⟨_, rfl⟩) rfl rfl (by decide) rfl ?_
   refine aops_nil (xq (xa 2 ?_))
   refine rg_q (q_m rfl) (rg_q (q_m rfl) ?_)
   refine rg_nil ?_
   refine aops_gat 9 6 rfl fun b6 => ?_
   refine aops_le (le_unref 9 6 rfl rfl) ?_
   refine aops_callLX hGB hNG 9 [6] [] en27 rfl rfl (numbersR_p b6 (zF (k : Int))) (.cons rfl .nil) rfl rfl rfl (by repeat (first | exact trivial | refine ⟨rfl, ?_⟩)) (by repeat (exact trivial)) rfl ?_
   refine aops_callLX hGB hNG 9 [6] [] en57 rfl rfl (read_p b6 s (kwB (k : Int)) hs (flwC (zF (k : Int))) (osK (k : Int)) (osK_len _) (osK_lt _)) (.cons rfl (.cons rfl (.cons rfl .nil))) rfl rfl rfl (by repeat (first | exact trivial | refine ⟨rfl, ?_⟩)) (by repeat (exact trivial)) rfl ?_
   refine aops_nil ?_
   change Awp _ _ _ _ _
   refine awp_cond rfl (fun hc5 => ?_) (fun hc5 => ?_)
   ·
    (try simp only [nb, ne_eq] at hc5)
    obtain ⟨e1, e2⟩ := rdC_k hlt hall hc5
    refine awp_seq ?_
    refine xa 0 ?_
    refine rg_nil ?_
    refine aops_le (le_reref 9 6 rfl rfl) ?_
    rw [e1]
    refine aops_q rfl (q_load_refA (ds := [_, _, _, _, _, _, _, _]) sz39 rfl rfl rfl rfl) ?_
    refine aops_store sz39 rfl rfl (by exact .inr ⟨_, rfl⟩) rfl rfl (by decide) rfl ?_
    refine aops_q rfl (q_a rfl) ?_
    refine aops_nil ?_
    change Awp _ _ _ _ _
    refine awp_ret ?_
    refine ⟨_, (.cons (.cellA rfl rfl sz39 rfl) xk1), ?_⟩
    rw [e2]; rfl
   ·
    (try simp only [nb, ne_eq] at hc5)
    have hall2 : ∀ j, j < k + 1 → rdB s (kwB (j : Int)) (osK (j : Int)).length = false := fun j hj => by
     by_cases e : j = k
     · subst e; exact hc5
     · exact hall j (by omega)
    refine awp_skip ?_
    change Awp _ _ _ _ _
    refine xa 2 ?_
    refine rg_q (q_add rfl rfl xi) ?_
    refine rg_q (q_m rfl) ?_
    refine rn ?_
    refine ⟨k + 1, ⟨by omega, hall2⟩, by omega, ?_⟩
    exact xh (ms := [6]) (by repeat (first | exact Out.head rfl rfl | (refine Out.put ?_ rfl) | (refine Out.site ?_ rfl) | (refine Out.called ?_ rfl rfl))) ⟨(by rfl), trivial⟩ trivial
  ·
   (try simp only [nb, ne_eq] at hc2)
   have hkn : k = 2 := by omega
   subst hkn
   have hz := flP_no (hall 0 (by decide)) (hall 1 (by decide))
   refine awp_exit ?_
   change Awp _ _ _ _ _
   refine awp_seq ?_
   refine xa 1 ?_
   refine rg_q (q_build (cs := [_, _, _, _, _, _, _, _]) pl39 zr39 rfl .nil trivial rfl) ?_
   refine rg_nil ?_
   refine aops_store sz39 rfl rfl (by exact .inr ⟨_, rfl⟩) rfl rfl (by decide) rfl ?_
   refine aops_q rfl (q_a rfl) ?_
   refine aops_nil ?_
   change Awp _ _ _ _ _
   refine awp_ret ?_
   refine ⟨_, (.cons (.cellA rfl rfl sz39 rfl) xk1), ?_⟩
   rw [hz]; rfl

def flEs (x : Flw) : List (List D × Nat × Int) := if x.kd = 0 then [(flwC x, 1, x.at_.1), (flwC x, 2, x.at_.2), (flwC x, 6, x.am)] else [(flwC x, 1, x.at_.1), (flwC x, 2, x.at_.2), (flwC x, 3, x.to_.1), (flwC x, 4, x.to_.2), (flwC x, 5, x.pc), (flwC x, 6, x.am), (flwC x, 7, x.tp)]
theorem numbersD_p (x : Flw) : PC Tryz.prog 27 [.pt (flwC x) 0] (.sl 1 ((flEs x).map pE)) := by
  unfold flEs
  by_cases h : x.kd = 0
  · rw [if_pos h]; exact numbersOf3_p x h
  · rw [if_neg h]; exact numbersOf7_p x h
theorem flE_ok {x : Flw} (h : FlwI x) : (flEs x).length ≤ 20 ∧ ∀ e ∈ flEs x, e.1[e.2.1]? = some (.v (.int .i64 e.2.2)) ∧ In64 e.2.2 := by
  have hq : ∀ n ∈ flN7 x, In64 n := h
  simp only [flN7, List.mem_cons, List.not_mem_nil, or_false, forall_eq_or_imp, forall_eq] at hq
  obtain ⟨q1, q2, q3, q4, q5, q6, q7⟩ := hq
  unfold flEs
  split
  · refine ⟨by show (_ : Nat) ≤ 20; simp, fun e he => ?_⟩
    simp only [List.mem_cons, List.not_mem_nil, or_false] at he
    rcases he with rfl | rfl | rfl <;> exact ⟨rfl, by assumption⟩
  · refine ⟨by show (_ : Nat) ≤ 20; simp, fun e he => ?_⟩
    simp only [List.mem_cons, List.not_mem_nil, or_false] at he
    rcases he with rfl | rfl | rfl | rfl | rfl | rfl | rfl <;> exact ⟨rfl, by assumption⟩
theorem flT_kw {x : Flw} (h : x.kd = 0 ∨ x.kd = 1) : mkB (wrT (kwB x.kd) ((flEs x).map fun e => e.2.2)) = flT x := by
  unfold kwB flEs flT
  by_cases h0 : x.kd = 0
  · rw [if_pos h0, if_pos h0, if_pos h0]; rfl
  · rw [if_neg h0, if_neg h0, if_neg h0, if_pos (h.resolve_left h0)]; rfl
theorem formatFlaw_p (x : Flw) (h : FlwI x) : PCG Tryz.prog GB 6 [.agg (flwC x)] (.v (.string (flT x))) := by
 refine pcg_of_awpO gb_low Tryz.func6 rfl Tryz.ntmps6 (rs := [.tmp 2]) Tryz.results6 (by simp) fun w0 hmine hrnd hpn hGB hNG => ?_
 have hG : ∀ w, ExtM w0 w → GW w := fun w h => (hGB w h).1
 refine awp_seq ?_
 refine xa 0 ?_
 refine rg_nil ?_
 refine aops_box rfl (by exact .inr ⟨_, rfl⟩) rfl rfl rfl ?_
 refine aops_q rfl (q_a rfl) ?_
 refine aops_nil (xq (awp_seq ?_))
 refine xa 4 ?_
 refine rg_q (q_fieldAddr_ref fld39_0 rfl) (rg_q (q_load_ref sz3 rfl rfl rfl) ?_)
 refine rg_q (q_call en25 (.cons rfl (.cons rfl (.cons rfl .nil))) rfl (bwithin_p _ _ _)) ?_
 refine rg_q (q_not rfl) ?_
 refine xc (awp_cond rfl (fun hc1 => ?_) (fun hc1 => ?_))
 ·
  (try simp only [nb, ne_eq] at hc1)
  have hkd : x.kd ≠ 0 ∧ x.kd ≠ 1 := by unfold inR at hc1; simp at hc1; omega
  have hz : flT x = ⟨#[]⟩ := by unfold flT; rw [if_neg hkd.1, if_neg hkd.2]
  refine awp_seq ?_
  refine xa 1 ?_
  refine rg_q (q_a rfl) ?_
  refine xc (awp_ret ?_)
  refine ⟨_, xk1, ?_⟩
  rw [hz]; rfl
 ·
  (try simp only [nb, ne_eq] at hc1)
  have hkd : x.kd = 0 ∨ x.kd = 1 := by unfold inR at hc1; simp at hc1; omega
  have hz := flT_kw hkd
  have hkw2 : (kwB x.kd).size ≤ 1000 := by unfold kwB; split <;> decide
  have hkw : kwL[0 + x.kd.toNat * 1]? = some (.string (kwB x.kd)) := by
   rcases hkd with e | e
   · rw [e]; rfl
   · rw [e]; rfl
  refine awp_skip ?_
  change Awp _ _ _ _ _
  refine awp_seq ?_
  refine Awp.le (le_freeze 1 1 0 (cs := flwC x) rfl rfl rfl rfl hmine) ?_
  refine xa 7 ?_
  refine rg_q (q_fieldAddr fld39_0 rfl) (rg_q (q_load sz3 rfl rfl) ?_)
  refine rg_q (q_indexAddr_glob (i := x.kd) ar76 rfl (by omega) (by omega)) ?_
  refine rg_q (q_load_glob (u := .string (kwB x.kd)) sz9 rfl (fun w hw => (hGB w hw).2.2 _ _ hkw) rfl) ?_
  refine rg_q (q_call en27 (.cons rfl .nil) rfl (numbersD_p x)) ?_
  refine rg_q (q_callG en26 (.cons rfl (.cons rfl .nil)) rfl hG (written_p (kwB x.kd) (flEs x) hkw2 (flE_ok h).1 (flE_ok h).2)) ?_
  refine rg_q (q_a rfl) ?_
  refine xc (awp_ret ?_)
  refine ⟨_, xk1, ?_⟩
  rw [← hz]; rfl
end Go.Proofs.YtkbdnkjjklbddaaGreatDoor.Am.M
