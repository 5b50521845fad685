/- Contracts over the abstract machine: BenchTexts. Conditions: none. -/
import Derived.Test.YtkbdnkjjklbddaaGreatDoorB19
set_option linter.unusedVariables false
set_option linter.unusedSimpArgs false
-- mini
set_option maxRecDepth 100000
namespace Go.Proofs.YtkbdnkjjklbddaaGreatDoor.Am.M
open Go

theorem eqi39 : EqI Tryz.prog 39 8 := by
  intro xs ys hx hy w
  match xs, ys, hx, hy with
  | [a0, a1, a2, a3, a4, a5, a6, a7], [b0, b1, b2, b3, b4, b5, b6, b7], _, _ =>
    refine ⟨fun x y => run_eqGuard_agg w .eql 39 x y _ _ (by kernel_rfl), fun x y => run_eqGuard_agg w .neq 39 x y _ _ (by kernel_rfl), ?_⟩
    have hf : (Tryz.prog.fieldsOf 39).toList = [⟨ "Kind", 3, 0, false, "", "", 0⟩, ⟨ "From", 37, 1, false, "", "", 8⟩, ⟨ "To", 37, 3, false, "", "", 24⟩, ⟨ "Pieces", 3, 5, false, "", "", 40⟩, ⟨ "Amplitude", 3, 6, false, "", "", 48⟩, ⟨ "Tip", 3, 7, false, "", "", 56⟩] := by kernel_rfl
    rw [show (10000 : Nat) = 9998 + 1 + 1 from rfl, run_equalIn_struct w (9998 + 1) 39 _ _ (by kernel_rfl) (by kernel_rfl), hf]
    have u3 := Tryz.underlying3
    have u37 := Tryz.underlying37
    have hl := eq38_low a1 a2 b1 b2 w
    have hl2 := eq38_low a3 a4 b3 b4 w
    simp only [iW] at hl hl2
    simp [Op.eqFields, part, isAgg, run_underlying u3, run_underlying u37, iW, run_equalIn_int, u3, Result.andThen, hl, hl2]
    (repeat' split) <;> simp_all
theorem spotsS_p (l : List (Int × Int)) (hl : l.length ≤ 1000) : PC Tryz.prog 80 [.sl 2 (l.map shC), .sl 2 (l.map shC)] (.v (.bool (true))) := by
 refine pc_of_awp Tryz.func80 rfl Tryz.ntmps80 (rs := [.tmp 4]) Tryz.results80 (by simp) fun w0 => ?_
 refine awp_seq ?_
 refine xa 1 ?_
 refine rg_q (q_a rfl) ?_
 refine rs (awp_seq ?_)
 refine xa 5 ?_
 refine rg_q (q_move (x := .d (.sl _ _)) rfl) ?_
 refine rg_q (q_len isl22 rfl (by exact len_map _ _)) ?_
 refine rg_q (q_move (x := .d (.sl _ _)) rfl) ?_
 refine rg_q (q_len isl22 rfl (by exact len_map _ _)) ?_
 refine rg_q (q_neq rfl rfl) ?_
 refine xc (awp_len (t := 6) rfl (fun hl6 => ?_))
 (try simp only [List.length_map] at hl6)
 refine awp_len (t := 8) rfl (fun hl8 => ?_)
 (try simp only [List.length_map] at hl8)
 refine awp_cond rfl (fun hc1 => ?_) (fun hc1 => ?_)
 ·
  simp at hc1
 ·
  (try simp only [nb, ne_eq] at hc1)
  refine awp_skip ?_
  change Awp _ _ _ _ _
  refine awp_seq ?_
  refine awp_seq ?_
  refine xa 1 ?_
  refine rg_q (q_a rfl) ?_
  refine xc (awp_block ?_)
  refine awp_loopH [4, 5, 11, 12, 13, 14, 15, 16, 17, 18, 19, 20, 21, 22, 23, 24, 25] [] (α := Nat) (fun k => [(5, T.i (k : Int))]) (fun k => []) (fun k => k ≤ l.length) (fun k => l.length - k) 0 (Nat.zero_le _) ?_ ?_
  · exact xh (ms := []) (by repeat (exact Out.refl _)) ⟨(by rfl), trivial⟩ trivial
  ·
   intro k hk
   refine awp_seq ?_
   refine awp_seq ?_
   refine xa 4 ?_
   refine rg_q (q_m rfl) (rg_q (q_move (x := .d (.sl _ _)) rfl) ?_)
   refine rg_q (q_len isl22 rfl (by exact len_map _ _)) ?_
   refine rg_q (q_lss rfl rfl) ?_
   refine xc (awp_len (t := 12) rfl (fun hl12 => ?_))
   (try simp only [List.length_map] at hl12)
   refine awp_cond rfl (fun hc4 => ?_) (fun hc4 => ?_)
   ·
    (try simp only [nb, ne_eq] at hc4)
    have hlt : k < l.length := by omega
    obtain ⟨x, hx⟩ : ∃ x, l[k]? = some x := ⟨_, List.getElem?_eq_getElem hlt⟩
    refine awp_skip ?_
    change Awp _ _ _ _ _
    refine awp_seq ?_
    refine awp_block ?_
    refine awp_seq ?_
    refine xa 9 ?_
    refine rg_q (q_move (x := .d (.sl _ _)) rfl) (rg_q (q_m rfl) ?_)
    refine rg_q (q_indexAddr sl22 rfl rfl (by omega) (map_at (by omega) hx)) ?_
    refine rg_q (q_loadA (ds := [_, _]) sz37 rfl rfl rfl) ?_
    refine rg_q (q_move (x := .d (.sl _ _)) rfl) (rg_q (q_m rfl) ?_)
    refine rg_q (q_indexAddr sl22 rfl rfl (by omega) (map_at (by omega) hx)) ?_
    refine rg_q (q_loadA (ds := [_, _]) sz37 rfl rfl rfl) ?_
    refine rg_q (q_neqI (xs := [_, _]) (ys := [_, _]) eqi37 rfl rfl rfl rfl) ?_
    refine xc (awp_cond rfl (fun hc6 => ?_) (fun hc6 => ?_))
    ·
     simp at hc6
    ·
     (try simp only [nb, ne_eq] at hc6)
     refine awp_skip ?_
     change Awp _ _ _ _ _
     refine xa 3 ?_
     refine rg_q (q_m rfl) ?_
     refine rg_q (q_add rfl rfl xi) ?_
     refine rg_q (q_a rfl) ?_
     refine rn ?_
     refine ⟨k + 1, by omega, by omega, ?_⟩
     exact xh (ms := []) (by repeat (first | exact Out.head rfl rfl | (refine Out.put ?_ rfl))) ⟨(by rfl), trivial⟩ trivial
   ·
    (try simp only [nb, ne_eq] at hc4)
    refine awp_exit ?_
    change Awp _ _ _ _ _
    refine awp_seq ?_
    refine xa 1 ?_
    refine rg_q (q_a rfl) ?_
    refine xc (awp_ret ?_)
    refine ⟨_, xk1, ?_⟩
    rfl
theorem intsS_p (l : List Int) (hl : l.length ≤ 1000) : PC Tryz.prog 45 [.sl 1 (l.map iC), .sl 1 (l.map iC)] (.v (.bool (true))) := by
 refine pc_of_awp Tryz.func45 rfl Tryz.ntmps45 (rs := [.tmp 4]) Tryz.results45 (by simp) fun w0 => ?_
 refine awp_seq ?_
 refine xa 1 ?_
 refine rg_q (q_a rfl) ?_
 refine rs (awp_seq ?_)
 refine xa 5 ?_
 refine rg_q (q_move (x := .d (.sl _ _)) rfl) ?_
 refine rg_q (q_len isl29 rfl (by exact len_map _ _)) ?_
 refine rg_q (q_move (x := .d (.sl _ _)) rfl) ?_
 refine rg_q (q_len isl29 rfl (by exact len_map _ _)) ?_
 refine rg_q (q_neq rfl rfl) ?_
 refine xc (awp_len (t := 6) rfl (fun hl6 => ?_))
 (try simp only [List.length_map] at hl6)
 refine awp_len (t := 8) rfl (fun hl8 => ?_)
 (try simp only [List.length_map] at hl8)
 refine awp_cond rfl (fun hc1 => ?_) (fun hc1 => ?_)
 ·
  simp at hc1
 ·
  (try simp only [nb, ne_eq] at hc1)
  refine awp_skip ?_
  change Awp _ _ _ _ _
  refine awp_seq ?_
  refine awp_seq ?_
  refine xa 1 ?_
  refine rg_q (q_a rfl) ?_
  refine xc (awp_block ?_)
  refine awp_loopH [4, 5, 11, 12, 13, 14, 15, 16, 17, 18, 19, 20, 21, 22, 23, 24, 25] [] (α := Nat) (fun k => [(5, T.i (k : Int))]) (fun k => []) (fun k => k ≤ l.length) (fun k => l.length - k) 0 (Nat.zero_le _) ?_ ?_
  · exact xh (ms := []) (by repeat (exact Out.refl _)) ⟨(by rfl), trivial⟩ trivial
  ·
   intro k hk
   refine awp_seq ?_
   refine awp_seq ?_
   refine xa 4 ?_
   refine rg_q (q_m rfl) (rg_q (q_move (x := .d (.sl _ _)) rfl) ?_)
   refine rg_q (q_len isl29 rfl (by exact len_map _ _)) ?_
   refine rg_q (q_lss rfl rfl) ?_
   refine xc (awp_len (t := 12) rfl (fun hl12 => ?_))
   (try simp only [List.length_map] at hl12)
   refine awp_cond rfl (fun hc4 => ?_) (fun hc4 => ?_)
   ·
    (try simp only [nb, ne_eq] at hc4)
    have hlt : k < l.length := by omega
    obtain ⟨x, hx⟩ : ∃ x, l[k]? = some x := ⟨_, List.getElem?_eq_getElem hlt⟩
    refine awp_skip ?_
    change Awp _ _ _ _ _
    refine awp_seq ?_
    refine awp_block ?_
    refine awp_seq ?_
    refine xa 9 ?_
    refine rg_q (q_move (x := .d (.sl _ _)) rfl) (rg_q (q_m rfl) ?_)
    refine rg_q (q_indexAddr sl29 rfl rfl (by omega) (map_at (by omega) hx)) ?_
    refine rg_q (q_load sz3 rfl rfl) (rg_q (q_move (x := .d (.sl _ _)) rfl) (rg_q (q_m rfl) ?_))
    refine rg_q (q_indexAddr sl29 rfl rfl (by omega) (map_at (by omega) hx)) ?_
    refine rg_q (q_load sz3 rfl rfl) (rg_q (q_neq rfl rfl) ?_)
    refine xc (awp_cond rfl (fun hc6 => ?_) (fun hc6 => ?_))
    ·
     simp at hc6
    ·
     (try simp only [nb, ne_eq] at hc6)
     refine awp_skip ?_
     change Awp _ _ _ _ _
     refine xa 3 ?_
     refine rg_q (q_m rfl) ?_
     refine rg_q (q_add rfl rfl xi) ?_
     refine rg_q (q_a rfl) ?_
     refine rn ?_
     refine ⟨k + 1, by omega, by omega, ?_⟩
     exact xh (ms := []) (by repeat (first | exact Out.head rfl rfl | (refine Out.put ?_ rfl))) ⟨(by rfl), trivial⟩ trivial
   ·
    (try simp only [nb, ne_eq] at hc4)
    refine awp_exit ?_
    change Awp _ _ _ _ _
    refine awp_seq ?_
    refine xa 1 ?_
    refine rg_q (q_a rfl) ?_
    refine xc (awp_ret ?_)
    refine ⟨_, xk1, ?_⟩
    rfl
theorem sameArr_p (a : Arr) (hl : a.el.length ≤ 1000) : PC Tryz.prog 44 [.agg (arrC a), .agg (arrC a)] (.v (.bool (true))) := by
 refine pc_of_awp Tryz.func44 rfl Tryz.ntmps44 (rs := [.tmp 4]) Tryz.results44 (by simp) fun w0 => ?_
 refine awp_seq ?_
 refine xa 3 ?_
 refine rg_q (q_box rfl (by exact .inr ⟨_, rfl⟩)) ?_
 refine rg_q (q_box rfl (by exact .inr ⟨_, rfl⟩)) ?_
 refine rg_q (q_a rfl) ?_
 refine rs (xa 27 ?_)
 refine rg_q (q_fieldAddr fld28_0 rfl) (rg_q (q_load sz22 rfl rfl) (rg_q (q_fieldAddr fld28_0 rfl) (rg_q (q_load sz22 rfl rfl) ?_)))
 refine rg_q (q_call en80 (.cons rfl (.cons rfl .nil)) rfl (spotsS_p a.el hl)) ?_
 refine rg_q (q_m rfl) ?_
 refine rg_g rfl rfl (fun hG => (q_fieldAddr fld28_1 rfl)) ?_
 refine rg_g rfl rfl (fun hG => (q_loadA (ds := [_, _, _, _]) sz24 rfl rfl rfl)) ?_
 refine rg_g rfl rfl (fun hG => (q_fieldAddr fld28_1 rfl)) ?_
 refine rg_g rfl rfl (fun hG => (q_loadA (ds := [_, _, _, _]) sz24 rfl rfl rfl)) ?_
 refine rg_g rfl rfl (fun hG => (q_eqlI (xs := [_, _, _, _]) (ys := [_, _, _, _]) eqi24 rfl rfl rfl rfl)) ?_
 refine rg_pick rfl rfl rfl rfl rfl rfl ?_
 refine rg_q (q_m rfl) ?_
 refine rg_g rfl rfl (fun hG => (q_fieldAddr fld28_2 rfl)) ?_
 refine rg_g rfl rfl (fun hG => (q_loadA (ds := [_, _, _, _]) sz24 rfl rfl rfl)) ?_
 refine rg_g rfl rfl (fun hG => (q_fieldAddr fld28_2 rfl)) ?_
 refine rg_g rfl rfl (fun hG => (q_loadA (ds := [_, _, _, _]) sz24 rfl rfl rfl)) ?_
 refine rg_g rfl rfl (fun hG => (q_eqlI (xs := [_, _, _, _]) (ys := [_, _, _, _]) eqi24 rfl rfl rfl rfl)) ?_
 refine rg_pick rfl rfl rfl rfl rfl rfl ?_
 refine rg_q (q_m rfl) ?_
 refine rg_g rfl rfl (fun hG => (q_fieldAddr fld28_3 rfl)) ?_
 refine rg_g rfl rfl (fun hG => (q_loadA (ds := [_, _]) sz26 rfl rfl rfl)) ?_
 refine rg_g rfl rfl (fun hG => (q_fieldAddr fld28_3 rfl)) ?_
 refine rg_g rfl rfl (fun hG => (q_loadA (ds := [_, _]) sz26 rfl rfl rfl)) ?_
 refine rg_g rfl rfl (fun hG => (q_eqlI (xs := [_, _]) (ys := [_, _]) eqi26 rfl rfl rfl rfl)) ?_
 refine rg_pick rfl rfl rfl rfl rfl rfl ?_
 refine rg_q (q_a rfl) ?_
 refine xc (awp_ret ?_)
 refine ⟨_, xk1, ?_⟩
 (simp [retD]; done)
theorem same_p (s : Spc) (hl : s.ar.el.length ≤ 1000) (h2 : s.pl.length ≤ 1000) (h3 : s.fl.length ≤ 1000) : PC Tryz.prog 16 [.agg (spcC s), .agg (spcC s)] (.v (.bool (true))) := by
 refine pc_of_awp Tryz.func16 rfl Tryz.ntmps16 (rs := [.tmp 4]) Tryz.results16 (by simp) fun w0 => ?_
 refine awp_seq ?_
 refine xa 3 ?_
 refine rg_q (q_box rfl (by exact .inr ⟨_, rfl⟩)) ?_
 refine rg_q (q_box rfl (by exact .inr ⟨_, rfl⟩)) ?_
 refine rg_q (q_a rfl) ?_
 refine rs (awp_seq ?_)
 refine xa 23 ?_
 refine rg_q (q_fieldAddr fld32_0 rfl) ?_
 refine rg_q (q_loadA (ds := [_, _, _, _, _, _, _, _, _, _, _]) sz28 rfl rfl rfl) ?_
 refine rg_q (q_fieldAddr fld32_0 rfl) ?_
 refine rg_q (q_loadA (ds := [_, _, _, _, _, _, _, _, _, _, _]) sz28 rfl rfl rfl) ?_
 refine rg_q (q_call en44 (.cons rfl (.cons rfl .nil)) rfl (sameArr_p s.ar hl)) ?_
 refine rg_q (q_not rfl) (rg_q (q_m rfl) ?_)
 refine rg_g rfl rfl (fun hG => (q_fieldAddr fld32_1 rfl)) ?_
 refine rg_g rfl rfl (fun hG => (q_load sz29 rfl rfl)) ?_
 refine rg_g rfl rfl (fun hG => (q_fieldAddr fld32_1 rfl)) ?_
 refine rg_g rfl rfl (fun hG => (q_load sz29 rfl rfl)) ?_
 refine rg_g rfl rfl (fun hG => (q_call en45 (.cons rfl (.cons rfl .nil)) rfl (intsS_p s.pl h2))) ?_
 refine rg_g rfl rfl (fun hG => (q_not rfl)) ?_
 refine rg_pick rfl rfl rfl rfl rfl rfl ?_
 refine rg_q (q_m rfl) ?_
 refine rg_g rfl rfl (fun hG => (q_fieldAddr fld32_2 rfl)) ?_
 refine rg_g rfl rfl (fun hG => (q_load sz30 rfl rfl)) ?_
 refine rg_g rfl rfl (fun hG => (q_len isl30 rfl (by exact len_map _ _))) ?_
 refine rg_g rfl rfl (fun hG => (q_fieldAddr fld32_2 rfl)) ?_
 refine rg_g rfl rfl (fun hG => (q_load sz30 rfl rfl)) ?_
 refine rg_g rfl rfl (fun hG => (q_len isl30 rfl (by exact len_map _ _))) ?_
 refine rg_g rfl rfl (fun hG => (q_neq rfl rfl)) ?_
 refine rg_pick rfl rfl rfl rfl rfl rfl ?_
 refine xc (awp_cond rfl (fun hc1 => ?_) (fun hc1 => ?_))
 ·
  simp at hc1
 ·
  (try simp only [nb, ne_eq] at hc1)
  refine awp_skip ?_
  change Awp _ _ _ _ _
  refine awp_seq ?_
  refine awp_seq ?_
  refine xa 1 ?_
  refine rg_q (q_a rfl) ?_
  refine xc (awp_block ?_)
  refine awp_loopH [4, 5, 29, 30, 31, 32, 33, 34, 35, 36, 37, 38, 39, 40, 41, 42, 43, 44, 45, 46] [] (α := Nat) (fun k => [(5, T.i (k : Int))]) (fun k => []) (fun k => k ≤ s.fl.length) (fun k => s.fl.length - k) 0 (Nat.zero_le _) ?_ ?_
  · exact xh (ms := []) (by repeat (exact Out.refl _)) ⟨(by rfl), trivial⟩ trivial
  ·
   intro k hk
   refine awp_seq ?_
   refine awp_seq ?_
   refine xa 5 ?_
   refine rg_q (q_m rfl) (rg_q (q_fieldAddr fld32_2 rfl) (rg_q (q_load sz30 rfl rfl) ?_))
   refine rg_q (q_len isl30 rfl (by exact len_map _ _)) ?_
   refine rg_q (q_lss rfl rfl) ?_
   refine xc (awp_len (t := 31) rfl (fun hl31 => ?_))
   (try simp only [List.length_map] at hl31)
   refine awp_cond rfl (fun hc4 => ?_) (fun hc4 => ?_)
   ·
    (try simp only [nb, ne_eq] at hc4)
    have hlt : k < s.fl.length := by omega
    obtain ⟨x, hx⟩ : ∃ x, s.fl[k]? = some x := ⟨_, List.getElem?_eq_getElem hlt⟩
    refine awp_skip ?_
    change Awp _ _ _ _ _
    refine awp_seq ?_
    refine awp_block ?_
    refine awp_seq ?_
    refine xa 11 ?_
    refine rg_q (q_fieldAddr fld32_2 rfl) (rg_q (q_load sz30 rfl rfl) (rg_q (q_m rfl) ?_))
    refine rg_q (q_indexAddr sl30 rfl rfl (by omega) (map_at (by omega) hx)) ?_
    refine rg_q (q_loadA (ds := [_, _, _, _, _, _, _, _]) sz39 rfl rfl rfl) ?_
    refine rg_q (q_fieldAddr fld32_2 rfl) (rg_q (q_load sz30 rfl rfl) (rg_q (q_m rfl) ?_))
    refine rg_q (q_indexAddr sl30 rfl rfl (by omega) (map_at (by omega) hx)) ?_
    refine rg_q (q_loadA (ds := [_, _, _, _, _, _, _, _]) sz39 rfl rfl rfl) ?_
    refine rg_q (q_neqI (xs := [_, _, _, _, _, _, _, _]) (ys := [_, _, _, _, _, _, _, _]) eqi39 rfl rfl rfl rfl) ?_
    refine xc (awp_cond rfl (fun hc6 => ?_) (fun hc6 => ?_))
    ·
     simp at hc6
    ·
     (try simp only [nb, ne_eq] at hc6)
     refine awp_skip ?_
     change Awp _ _ _ _ _
     refine xa 3 ?_
     refine rg_q (q_m rfl) ?_
     refine rg_q (q_add rfl rfl xi) ?_
     refine rg_q (q_a rfl) ?_
     refine rn ?_
     refine ⟨k + 1, by omega, by omega, ?_⟩
     exact xh (ms := []) (by repeat (first | exact Out.head rfl rfl | (refine Out.put ?_ rfl))) ⟨(by rfl), trivial⟩ trivial
   ·
    (try simp only [nb, ne_eq] at hc4)
    refine awp_exit ?_
    change Awp _ _ _ _ _
    refine awp_seq ?_
    refine xa 1 ?_
    refine rg_q (q_a rfl) ?_
    refine xc (awp_ret ?_)
    refine ⟨_, xk1, ?_⟩
    rfl

theorem flT_len {x : Flw} (h : FlwI x) : (flT x).size ≤ 1000 := by
  have h3 := wrT_len (wd := porS) (ns := flN3 x) (flI3 h)
  have h7 := wrT_len (wd := plaS) (ns := flN7 x) h
  have e3 : porS.size = 4 := rfl
  have e7 : plaS.size = 5 := rfl
  simp only [flN3, flN7, List.length_cons, List.length_nil] at h3 h7
  rw [e3] at h3; rw [e7] at h7
  unfold flT
  split
  · rw [mkB_size]; unfold flN3; omega
  · split
    · rw [mkB_size]; unfold flN7; omega
    · exact Nat.zero_le _
theorem psR_sz (t : ByteArray) (m j : Nat) : (psR t m j).1.ar.el.length ≤ 1000 ∧ (psR t m j).1.pl.length ≤ 1000 ∧ (psR t m j).1.fl.length ≤ 1000 := by
  have hz : zS.ar.el.length ≤ 1000 ∧ zS.pl.length ≤ 1000 ∧ zS.fl.length ≤ 1000 := by decide
  unfold psR
  split
  · exact hz
  · split
    · exact hz
    · split
      · exact hz
      · rename_i h
        have hi := spI_of (Decidable.not_not.1 h)
        have := hi.n1
        have := hi.n2'
        have := hi.n3
        exact ⟨by show (spS _ m j).ar.el.length ≤ _; omega, by show (spS _ m j).pl.length ≤ _; omega, by show (spS _ m j).fl.length ≤ _; omega⟩
def prA (s : Spc) : ByteArray := if (ckSpc s).2 = 0 then prT s else ⟨#[]⟩
theorem printA_p (s : Spc) (hf : ∀ x ∈ s.fl, FlwI x) : PCG Tryz.prog GB 11 [.agg (spcC s)] (.tup [.v (.string (prA s)), .v (.int .i64 (ckSpc s).2)]) := by
  by_cases h : (ckSpc s).2 = 0
  · have q := print_p s h hf
    rw [show prA s = prT s from if_pos h, h]; exact q
  · have q := printNo_p s h
    rw [show prA s = ⟨#[]⟩ from if_neg h]; exact q
set_option maxHeartbeats 4000000 in
theorem benchTexts_p (s : Spc) (t : ByteArray) (hf : ∀ x ∈ s.fl, FlwI x) : PCG Tryz.prog GB 3 [.agg (spcC s), .v (.string (t))] (.v (.bool (true))) := by
 refine pcg_of_awpO gb_low Tryz.func3 rfl Tryz.ntmps3 (rs := [.tmp 4]) Tryz.results3 (by simp) fun w0 hmine hrnd hpn hGB hNG => ?_
 have hG : ∀ w, ExtM w0 w → GW w := fun w h => (hGB w h).1
 refine awp_seq ?_
 refine xa 2 ?_
 refine rg_q (q_box rfl (by exact .inr ⟨_, rfl⟩)) ?_
 refine rg_q (q_a rfl) ?_
 refine rs (awp_seq ?_)
 refine xa 2 ?_
 refine rg_q (q_call en4 .nil rfl (awake_p)) ?_
 refine rg_q (q_not rfl) ?_
 refine xc (awp_cond rfl (fun hc1 => ?_) (fun hc1 => ?_))
 ·
  cases hc1
 ·
  (try simp only [nb, ne_eq] at hc1)
  refine awp_skip ?_
  change Awp _ _ _ _ _
  refine awp_seq ?_
  refine awp_seq ?_
  refine xa 18 ?_
  refine rg_q (q_loadA sz32 rfl rfl rfl) ?_
  refine rg_q (q_call en5 (.cons rfl .nil) rfl (slight_p s)) ?_
  refine rg_q (q_not rfl) (rg_q (q_m rfl) ?_)
  refine rg_g rfl rfl (fun hG => (q_m rfl)) ?_
  refine rg_g rfl rfl (fun hG => (q_len_str str9 rfl)) ?_
  refine rg_g rfl rfl (fun hG => (q_gtr rfl rfl)) ?_
  refine rg_g rfl rfl (fun hG => (q_m rfl)) ?_
  refine rg_g rfl rfl (fun hG => (q_m rfl)) ?_
  refine rg_g rfl rfl (fun hG => (q_len_str str9 rfl)) ?_
  refine rg_g rfl rfl (fun hG => (q_leq rfl rfl)) ?_
  refine rg_pickg rfl rfl rfl rfl rfl rfl rfl rfl ?_
  refine rg_pick rfl rfl rfl rfl rfl rfl ?_
  refine rg_q (q_m rfl) ?_
  refine rg_g rfl rfl (fun hG => (q_m rfl)) ?_
  refine rg_g rfl rfl (fun hG => (q_len_str str9 rfl)) ?_
  refine rg_g rfl rfl (fun hG => (q_gtr rfl rfl)) ?_
  refine rg_pick rfl rfl rfl rfl rfl rfl ?_
  refine xc (awp_cond rfl (fun hc3 => ?_) (fun hc3 => ?_))
  ·
   (try simp only [nb, ne_eq] at hc3)
   refine awp_seq ?_
   refine xa 1 ?_
   refine rg_q (q_a rfl) ?_
   refine xc (awp_ret ?_)
   refine ⟨_, xk1, ?_⟩
   rfl
  ·
   (try simp only [nb, ne_eq] at hc3)
   have hsl : sliB s = true := by exact hc3.1.1
   have htz : t.size ≤ 60050 := by
    have := hc3.2
    omega
   have htl : t.size = t.data.toList.length := Lib.size_eq t
   obtain ⟨m, j, hm, hj, m1, m2, j1, j2⟩ := mj_ex t.data.toList
   obtain ⟨z1, z2, z3⟩ := psR_sz t m j
   refine awp_skip ?_
   change Awp _ _ _ _ _
   refine awp_seq ?_
   refine awp_seq ?_
   refine xa 1 ?_
   refine rg_q (q_a rfl) ?_
   refine xc (awp_block ?_)
   refine awp_loopH [4, 5, 6, 7, 8, 45, 46, 47, 48, 49, 50, 51, 52, 53, 54, 55, 56, 57, 58, 59, 60, 61, 62, 63, 64, 65, 66, 67, 68, 69, 70, 71, 72, 73, 74, 75, 76, 77, 78, 79, 80, 81, 82, 83, 84, 85, 86, 87, 88, 89, 90, 91, 92] [7] (α := Nat) (fun k => [(5, T.i (k : Int))]) (fun k => []) (fun k => k ≤ s.fl.length) (fun k => s.fl.length - k) 0 (Nat.zero_le _) ?_ ?_
   · exact xh (ms := [7]) (by repeat (exact Out.refl _)) ⟨(by rfl), trivial⟩ trivial
   ·
    intro k hk
    refine awp_seq ?_
    refine awp_seq ?_
    refine xa 5 ?_
    refine rg_q (q_m rfl) (rg_q (q_fieldAddr fld32_2 rfl) (rg_q (q_load sz30 rfl rfl) ?_))
    refine rg_q (q_len isl30 rfl (by exact len_map _ _)) ?_
    refine rg_q (q_lss rfl rfl) ?_
    refine xc (awp_len (t := 47) rfl (fun hl47 => ?_))
    (try simp only [List.length_map] at hl47)
    refine awp_cond rfl (fun hc6 => ?_) (fun hc6 => ?_)
    ·
     (try simp only [nb, ne_eq] at hc6)
     have hlt : k < s.fl.length := by (try simp only [List.length_map] at hc6); omega
     obtain ⟨x, hx⟩ : ∃ x, s.fl[k]? = some x := ⟨_, List.getElem?_eq_getElem hlt⟩
     have hxi := hf x (List.mem_of_getElem? hx)
     have hxl := flT_len hxi
     refine awp_skip ?_
     change Awp _ _ _ _ _
     refine awp_seq ?_
     refine awp_block ?_
     refine awp_seq ?_
     refine xa 7 ?_
     refine rg_q (q_fieldAddr fld32_2 rfl) (rg_q (q_load sz30 rfl rfl) (rg_q (q_m rfl) ?_))
     refine rg_q (q_indexAddr sl30 rfl rfl (by omega) (map_at (by omega) hx)) ?_
     refine rg_q (q_loadA (ds := [_, _, _, _, _, _, _, _]) sz39 rfl rfl rfl) ?_
     refine rg_q (q_callG en6 (.cons rfl .nil) rfl hGB (formatFlaw_p x hxi)) ?_
     refine rg_q (q_a rfl) ?_
     refine rs (xa 5 ?_)
     refine rg_q (q_m rfl) ?_
     refine rg_q (q_callG en7 (.cons rfl .nil) rfl hGB (parseFlaw_p (flT x) (by omega))) ?_
     refine rg_q (q_move (x := .d (.tup _)) rfl) (rg_q (q_extract rfl rfl) (rg_q (q_extract rfl rfl) ?_))
     refine rg_nil ?_
     refine aops_alloc zr39 rfl rfl rfl ?_
     refine aops_store sz39 rfl rfl (by exact .inr ⟨_, rfl⟩) rfl rfl (by decide) rfl ?_
     refine aops_q rfl (q_a rfl) ?_
     refine aops_nil (xq (xa 30 ?_))
     refine rg_q (q_m rfl) (rg_q (q_fieldAddr fld32_2 rfl) (rg_q (q_load sz30 rfl rfl) (rg_q (q_m rfl) ?_)))
     refine rg_q (q_indexAddr sl30 rfl rfl (by omega) (map_at (by omega) hx)) ?_
     refine rg_q (q_loadA (ds := [_, _, _, _, _, _, _, _]) sz39 rfl rfl rfl) ?_
     refine rg_q (q_call en8 (.cons rfl .nil) rfl (rformatFlaw_p x hxi)) ?_
     refine rg_q (q_neqs rfl rfl) ?_
     refine rg_q (q_m rfl) ?_
     refine rg_g rfl rfl (fun hG => (q_fieldAddr fld32_2 rfl)) ?_
     refine rg_g rfl rfl (fun hG => (q_load sz30 rfl rfl)) ?_
     refine rg_g rfl rfl (fun hG => (q_m rfl)) ?_
     refine rg_g rfl rfl (fun hG => (q_indexAddr sl30 rfl rfl (by (have hg0 := T.bool_inj (a := _) hG.1; (try simp only [nb, ne_eq] at hg0); omega)) (map_at (by (have hg0 := T.bool_inj (a := _) hG.1; (try simp only [nb, ne_eq] at hg0); omega)) hx))) ?_
     refine rg_g rfl rfl (fun hG => (q_loadA (ds := [_, _, _, _, _, _, _, _]) sz39 rfl rfl rfl)) ?_
     refine rg_g rfl rfl (fun hG => (q_call en9 (.cons rfl .nil) rfl (rcheckFlaw_p x))) ?_
     refine rg_g rfl rfl (fun hG => (q_eql rfl rfl)) ?_
     refine rg_g rfl rfl (fun hG => (q_m rfl)) ?_
     refine rg_g rfl rfl (fun hG => (q_m rfl)) ?_
     refine rg_g rfl rfl (fun hG => (q_neq rfl rfl)) ?_
     refine rg_g rfl rfl (fun hG => (q_m rfl)) ?_
     refine rg_g rfl rfl (fun hG => (q_load_refA (ds := [_, _, _, _, _, _, _, _]) sz39 rfl rfl rfl rfl)) ?_
     refine rg_g rfl rfl (fun hG => (q_fieldAddr fld32_2 rfl)) ?_
     refine rg_g rfl rfl (fun hG => (q_load sz30 rfl rfl)) ?_
     refine rg_g rfl rfl (fun hG => (q_m rfl)) ?_
     refine rg_g rfl rfl (fun hG => (q_indexAddr sl30 rfl rfl (by (have hg0 := T.bool_inj (a := _) hG.1; (try simp only [nb, ne_eq] at hg0); have hg1 := T.bool_inj (a := _) hG.2.1; (try simp only [nb, ne_eq] at hg1); have hg2 := T.bool_inj (a := _) hG.2.2.1; (try simp only [nb, ne_eq] at hg2); omega)) (map_at (by (have hg0 := T.bool_inj (a := _) hG.1; (try simp only [nb, ne_eq] at hg0); have hg1 := T.bool_inj (a := _) hG.2.1; (try simp only [nb, ne_eq] at hg1); have hg2 := T.bool_inj (a := _) hG.2.2.1; (try simp only [nb, ne_eq] at hg2); omega)) hx))) ?_
     refine rg_g rfl rfl (fun hG => (q_loadA (ds := [_, _, _, _, _, _, _, _]) sz39 rfl rfl rfl)) ?_
     refine rg_g rfl rfl (fun hG => (q_neqI (xs := [_, _, _, _, _, _, _, _]) (ys := [_, _, _, _, _, _, _, _]) eqi39 rfl rfl rfl rfl)) ?_
     refine rg_pickg rfl rfl rfl rfl rfl rfl rfl rfl ?_
     refine rg_pickg rfl rfl rfl rfl rfl rfl rfl rfl ?_
     refine rg_pick rfl rfl rfl rfl rfl rfl ?_
     refine xc (awp_cond rfl (fun hc10 => ?_) (fun hc10 => ?_))
     ·
      exfalso
      by_cases hE : flwE x = 0
      · rw [pfR_back hE] at hc10; simp at hc10
      · simp [hE] at hc10
     ·
      (try simp only [nb, ne_eq] at hc10)
      refine awp_skip ?_
      change Awp _ _ _ _ _
      refine xa 3 ?_
      refine rg_q (q_m rfl) ?_
      refine rg_q (q_add rfl rfl xi) ?_
      refine rg_q (q_a rfl) ?_
      refine rn ?_
      refine ⟨k + 1, by omega, by omega, ?_⟩
      exact xh (ms := [7]) (by repeat (first | exact Out.head rfl rfl | (refine Out.put ?_ rfl) | (refine Out.site ?_ rfl))) ⟨(by rfl), trivial⟩ trivial
    ·
     (try simp only [nb, ne_eq] at hc6)
     refine awp_exit ?_
     change Awp _ _ _ _ _
     refine awp_seq ?_
     refine xa 5 ?_
     refine rg_q (q_m rfl) ?_
     refine rg_q (q_callG en7 (.cons rfl .nil) rfl hGB (parseFlaw_p t (by omega))) ?_
     refine rg_q (q_move (x := .d (.tup _)) rfl) (rg_q (q_extract rfl rfl) (rg_q (q_extract rfl rfl) ?_))
     refine rg_nil ?_
     refine aops_alloc zr39 rfl rfl rfl ?_
     refine aops_store sz39 rfl rfl (by exact .inr ⟨_, rfl⟩) rfl rfl (by decide) rfl ?_
     refine aops_q rfl (q_a rfl) ?_
     refine aops_nil (xq (xa 5 ?_))
     refine rg_q (q_m rfl) ?_
     refine rg_q (q_call en10 (.cons rfl .nil) rfl (rparseFlaw_p t (by omega))) ?_
     refine rg_q (q_move (x := .d (.tup _)) rfl) (rg_q (q_extract rfl rfl) (rg_q (q_extract rfl rfl) ?_))
     refine rg_nil ?_
     refine aops_alloc zr39 rfl rfl rfl ?_
     refine aops_store sz39 rfl rfl (by exact .inr ⟨_, rfl⟩) rfl rfl (by decide) rfl ?_
     refine aops_q rfl (q_a rfl) ?_
     refine aops_nil (xq (awp_seq ?_))
     refine xa 8 ?_
     refine rg_q (q_m rfl) (rg_q (q_m rfl) (rg_q (q_neq rfl rfl) (rg_q (q_m rfl) ?_)))
     refine rg_g rfl rfl (fun hG => (q_load_refA (ds := [_, _, _, _, _, _, _, _]) sz39 rfl rfl rfl rfl)) ?_
     refine rg_g rfl rfl (fun hG => (q_load_refA (ds := [_, _, _, _, _, _, _, _]) sz39 rfl rfl rfl rfl)) ?_
     refine rg_g rfl rfl (fun hG => (q_neqI (xs := [_, _, _, _, _, _, _, _]) (ys := [_, _, _, _, _, _, _, _]) eqi39 rfl rfl rfl rfl)) ?_
     refine rg_pick rfl rfl rfl rfl rfl rfl ?_
     refine xc (awp_cond rfl (fun hc14 => ?_) (fun hc14 => ?_))
     ·
      simp at hc14
     ·
      (try simp only [nb, ne_eq] at hc14)
      refine awp_skip ?_
      change Awp _ _ _ _ _
      refine awp_seq ?_
      refine xa 8 ?_
      refine rg_q (q_loadA sz32 rfl rfl rfl) ?_
      refine rg_q (q_call en12 (.cons rfl .nil) rfl (copySpc_p s (by have := (sli_le hsl).1; omega) (by have := (sli_le hsl).2.1; omega) (by have := (sli_le hsl).2.2; omega))) ?_
      refine rg_q (q_callG en11 (.cons rfl .nil) rfl hGB (printA_p s hf)) ?_
      refine rg_q (q_move (x := .d (.tup _)) rfl) (rg_q (q_extract rfl rfl) (rg_q (q_extract rfl rfl) (rg_q (q_a rfl) (rg_q (q_a rfl) ?_))))
      refine rs (awp_seq ?_)
      refine xa 3 ?_
      refine rg_q (q_loadA sz32 rfl rfl rfl) ?_
      refine rg_q (q_call en13 (.cons rfl .nil) rfl (specimenErr_p s)) ?_
      refine rg_q (q_a rfl) ?_
      refine rs (xa 2 ?_)
      refine rg_q (q_m rfl) (rg_q (q_neq rfl rfl) ?_)
      refine xc (awp_cond rfl (fun hc18 => ?_) (fun hc18 => ?_))
      ·
       (try simp only [nb, ne_eq] at hc18)
       have ha : prA s = ⟨#[]⟩ := if_neg hc18
       refine awp_seq ?_
       refine xa 7 ?_
       refine rg_q (q_m rfl) (rg_q (q_m rfl) (rg_q (q_neq rfl rfl) (rg_q (q_m rfl) ?_)))
       refine rg_g rfl rfl (fun hG => (q_m rfl)) ?_
       refine rg_g rfl rfl (fun hG => (q_neqs rfl rfl)) ?_
       refine rg_pick rfl rfl rfl rfl rfl rfl ?_
       refine xc (awp_cond rfl (fun hc19 => ?_) (fun hc19 => ?_))
       ·
        rw [ha] at hc19; simp at hc19
       ·
        (try simp only [nb, ne_eq] at hc19)
        refine awp_skip ?_
        change Awp _ _ _ _ _
        refine awp_seq ?_
        refine xa 6 ?_
        refine rg_q (q_m rfl) ?_
        refine rg_q (q_callG en14 (.cons rfl .nil) rfl hGB (parse_p t m j (by omega) (by omega) m1 m2 j1 j2)) ?_
        refine rg_q (q_move (x := .d (.tup _)) rfl) (rg_q (q_extract rfl rfl) (rg_q (q_extract rfl rfl) (rg_q (q_extract rfl rfl) ?_)))
        refine rg_nil ?_
        refine aops_alloc zr32 rfl rfl rfl ?_
        refine aops_store sz32 rfl rfl (by exact .inr ⟨_, rfl⟩) rfl rfl (by decide) rfl ?_
        refine aops_q rfl (q_a rfl) ?_
        refine aops_q rfl (q_a rfl) ?_
        refine aops_nil (xq (xa 6 ?_))
        refine rg_q (q_m rfl) ?_
        refine rg_q (q_callG en17 (.cons rfl .nil) rfl hGB (rparse_p t m j (by omega) (by omega) m1 m2 j1 j2)) ?_
        refine rg_q (q_move (x := .d (.tup _)) rfl) (rg_q (q_extract rfl rfl) (rg_q (q_extract rfl rfl) (rg_q (q_extract rfl rfl) ?_)))
        refine rg_nil ?_
        refine aops_alloc zr32 rfl rfl rfl ?_
        refine aops_store sz32 rfl rfl (by exact .inr ⟨_, rfl⟩) rfl rfl (by decide) rfl ?_
        refine aops_q rfl (q_a rfl) ?_
        refine aops_q rfl (q_a rfl) ?_
        refine aops_nil (xq (xa 14 ?_))
        refine rg_q (q_m rfl) (rg_q (q_m rfl) (rg_q (q_eql rfl rfl) (rg_q (q_m rfl) ?_)))
        refine rg_g rfl rfl (fun hG => (q_m rfl)) ?_
        refine rg_g rfl rfl (fun hG => (q_m rfl)) ?_
        refine rg_g rfl rfl (fun hG => (q_eql rfl rfl)) ?_
        refine rg_pick rfl rfl rfl rfl rfl rfl ?_
        refine rg_q (q_m rfl) ?_
        refine rg_g rfl rfl (fun hG => (q_load_refA sz32 rfl rfl rfl rfl)) ?_
        refine rg_g rfl rfl (fun hG => (q_load_refA sz32 rfl rfl rfl rfl)) ?_
        refine rg_g rfl rfl (fun hG => (q_call en16 (.cons rfl (.cons rfl .nil)) rfl (same_p (psR t m j).1 z1 z2 z3))) ?_
        refine rg_pick rfl rfl rfl rfl rfl rfl ?_
        refine rg_q (q_a rfl) ?_
        refine xc (awp_ret ?_)
        refine ⟨_, xk1, ?_⟩
        (simp [retD]; done)
      ·
       (try simp only [nb, ne_eq] at hc18)
       have ha : prA s = prT s := if_pos hc18
       rw [ha]
       obtain ⟨b1, b2, b3, b4, b5⟩ := read_back hc18
       refine awp_seq ?_
       refine xa 6 ?_
       refine rg_q (q_m rfl) ?_
       refine rg_q (q_callG en14 (.cons rfl .nil) rfl hGB ((by have q := parse_p (prT s) s.ar.el.length s.fl.length (by have := (sli_le hsl).1; omega) (by have := (sli_le hsl).2.2; omega) b1 b2 b3 b4; rw [b5] at q; exact q))) ?_
       refine rg_q (q_move (x := .d (.tup _)) rfl) (rg_q (q_extract rfl rfl) (rg_q (q_extract rfl rfl) (rg_q (q_extract rfl rfl) ?_)))
       refine rg_nil ?_
       refine aops_alloc zr32 rfl rfl rfl ?_
       refine aops_store sz32 rfl rfl (by exact .inr ⟨_, rfl⟩) rfl rfl (by decide) rfl ?_
       refine aops_q rfl (q_a rfl) ?_
       refine aops_q rfl (q_a rfl) ?_
       refine aops_nil (xq (xa 22 ?_))
       refine rg_q (q_m rfl) (rg_q (q_neq rfl rfl) (rg_q (q_m rfl) ?_))
       refine rg_g rfl rfl (fun hG => (q_m rfl)) ?_
       refine rg_g rfl rfl (fun hG => (q_loadA sz32 rfl rfl rfl)) ?_
       refine rg_g rfl rfl (fun hG => (q_call en15 (.cons rfl .nil) rfl (rprint_p s hc18 hf))) ?_
       refine rg_g rfl rfl (fun hG => (q_neqs rfl rfl)) ?_
       refine rg_pick rfl rfl rfl rfl rfl rfl ?_
       refine rg_q (q_m rfl) ?_
       refine rg_g rfl rfl (fun hG => (q_m rfl)) ?_
       refine rg_g rfl rfl (fun hG => (q_neq rfl rfl)) ?_
       refine rg_pick rfl rfl rfl rfl rfl rfl ?_
       refine rg_q (q_m rfl) ?_
       refine rg_g rfl rfl (fun hG => (q_m rfl)) ?_
       refine rg_g rfl rfl (fun hG => (q_neq rfl rfl)) ?_
       refine rg_pick rfl rfl rfl rfl rfl rfl ?_
       refine rg_q (q_m rfl) ?_
       refine rg_g rfl rfl (fun hG => (q_load_refA sz32 rfl rfl rfl rfl)) ?_
       refine rg_g rfl rfl (fun hG => (q_loadA sz32 rfl rfl rfl)) ?_
       refine rg_g rfl rfl (fun hG => (q_call en16 (.cons rfl (.cons rfl .nil)) rfl (same_p s (by have := (sli_le hsl).1; omega) (by have := (sli_le hsl).2.1; omega) (by have := (sli_le hsl).2.2; omega)))) ?_
       refine rg_g rfl rfl (fun hG => (q_not rfl)) ?_
       refine rg_pick rfl rfl rfl rfl rfl rfl ?_
       refine xc (awp_cond rfl (fun hc22 => ?_) (fun hc22 => ?_))
       ·
        simp [hc18] at hc22
       ·
        (try simp only [nb, ne_eq] at hc22)
        refine awp_skip ?_
        change Awp _ _ _ _ _
        refine awp_seq ?_
        refine xa 6 ?_
        refine rg_q (q_m rfl) ?_
        refine rg_q (q_callG en14 (.cons rfl .nil) rfl hGB (parse_p t m j (by omega) (by omega) m1 m2 j1 j2)) ?_
        refine rg_q (q_move (x := .d (.tup _)) rfl) (rg_q (q_extract rfl rfl) (rg_q (q_extract rfl rfl) (rg_q (q_extract rfl rfl) ?_)))
        refine rg_nil ?_
        refine aops_alloc zr32 rfl rfl rfl ?_
        refine aops_store sz32 rfl rfl (by exact .inr ⟨_, rfl⟩) rfl rfl (by decide) rfl ?_
        refine aops_q rfl (q_a rfl) ?_
        refine aops_q rfl (q_a rfl) ?_
        refine aops_nil (xq (xa 6 ?_))
        refine rg_q (q_m rfl) ?_
        refine rg_q (q_callG en17 (.cons rfl .nil) rfl hGB (rparse_p t m j (by omega) (by omega) m1 m2 j1 j2)) ?_
        refine rg_q (q_move (x := .d (.tup _)) rfl) (rg_q (q_extract rfl rfl) (rg_q (q_extract rfl rfl) (rg_q (q_extract rfl rfl) ?_)))
        refine rg_nil ?_
        refine aops_alloc zr32 rfl rfl rfl ?_
        refine aops_store sz32 rfl rfl (by exact .inr ⟨_, rfl⟩) rfl rfl (by decide) rfl ?_
        refine aops_q rfl (q_a rfl) ?_
        refine aops_q rfl (q_a rfl) ?_
        refine aops_nil (xq (xa 14 ?_))
        refine rg_q (q_m rfl) (rg_q (q_m rfl) (rg_q (q_eql rfl rfl) (rg_q (q_m rfl) ?_)))
        refine rg_g rfl rfl (fun hG => (q_m rfl)) ?_
        refine rg_g rfl rfl (fun hG => (q_m rfl)) ?_
        refine rg_g rfl rfl (fun hG => (q_eql rfl rfl)) ?_
        refine rg_pick rfl rfl rfl rfl rfl rfl ?_
        refine rg_q (q_m rfl) ?_
        refine rg_g rfl rfl (fun hG => (q_load_refA sz32 rfl rfl rfl rfl)) ?_
        refine rg_g rfl rfl (fun hG => (q_load_refA sz32 rfl rfl rfl rfl)) ?_
        refine rg_g rfl rfl (fun hG => (q_call en16 (.cons rfl (.cons rfl .nil)) rfl (same_p (psR t m j).1 z1 z2 z3))) ?_
        refine rg_pick rfl rfl rfl rfl rfl rfl ?_
        refine rg_q (q_a rfl) ?_
        refine xc (awp_ret ?_)
        refine ⟨_, xk1, ?_⟩
        (simp [retD]; done)
end Go.Proofs.YtkbdnkjjklbddaaGreatDoor.Am.M
