/- Contracts over the abstract machine: a specimen is written: the code. Conditions: none. -/
import Derived.Test.YtkbdnkjjklbddaaGreatDoorB17
set_option linter.unusedVariables false
set_option linter.unusedSimpArgs false
-- mini
set_option maxRecDepth 100000
namespace Go.Proofs.YtkbdnkjjklbddaaGreatDoor.Am.M
open Go
theorem modeD_p (cs : List D) (o : Nat) : PC Tryz.prog 36 [.pt cs o] (.sl 1 [[.pt (cs) (o)], [.pt (cs) (o + 1)], [.pt (cs) (o + 2)], [.pt (cs) (o + 3)]]) := by
 refine pc_of_awp Tryz.func36 rfl Tryz.ntmps36 (rs := [.tmp 2]) Tryz.results36 (by simp) fun w0 => ?_
 refine awp_seq ?_
 refine xa 1 ?_
 refine rg_q (q_assign (x := .d (.sl _ _)) rfl) ?_
 refine rs (xa 14 ?_)
 refine rg_q (q_move (x := .d (.pt _ _)) rfl) (rg_q (q_nilCheck rfl) (rg_q (q_fieldAddr fld24_0 rfl) (rg_q (q_move (x := .d (.pt _ _)) rfl) (rg_q (q_nilCheck rfl) (rg_q (q_fieldAddr fld24_1 rfl) ?_)))))
 refine rg_q (q_move (x := .d (.pt _ _)) rfl) (rg_q (q_nilCheck rfl) (rg_q (q_fieldAddr fld24_2 rfl) (rg_q (q_move (x := .d (.pt _ _)) rfl) (rg_q (q_nilCheck rfl) (rg_q (q_fieldAddr fld24_3 rfl) ?_)))))
 refine rg_q (q_buildSlice sl77 zr87 rfl rfl (by decide) (.cons rfl (by exact .inl rfl) (.cons rfl (by exact .inl rfl) (.cons rfl (by exact .inl rfl) (.cons rfl (by exact .inl rfl) .nil)))) ⟨rfl, rfl, rfl, rfl, rfl, rfl, rfl, rfl, trivial⟩ rfl (by decide) rfl) ?_
 refine rg_q (q_assign (x := .d (.sl _ _)) rfl) ?_
 refine xc (awp_ret ?_)
 refine ⟨_, xk1, ?_⟩
 rfl

theorem eT_ok {s : Spc} (h : ∀ n ∈ n2 s.ar.ts, In64 n) : ∀ e ∈ ([(spcC s, 9, s.ar.ts.1), (spcC s, 10, s.ar.ts.2)] : List (List D × Nat × Int)), e.1[e.2.1]? = some (.v (.int .i64 e.2.2)) ∧ In64 e.2.2 := by
  intro e he
  simp only [List.mem_cons, List.not_mem_nil, or_false] at he
  rcases he with rfl | rfl
  · exact ⟨rfl, h _ (by simp [n2])⟩
  · exact ⟨rfl, h _ (by simp [n2])⟩
theorem eO_ok {s : Spc} (h : ∀ n ∈ mdN s.ar.ou, In64 n) : ∀ e ∈ ([(spcC s, 1, s.ar.ou.w), (spcC s, 2, s.ar.ou.m), (spcC s, 3, s.ar.ou.k), (spcC s, 4, s.ar.ou.t)] : List (List D × Nat × Int)), e.1[e.2.1]? = some (.v (.int .i64 e.2.2)) ∧ In64 e.2.2 := by
  intro e he
  simp only [List.mem_cons, List.not_mem_nil, or_false] at he
  rcases he with rfl | rfl | rfl | rfl
  all_goals exact ⟨rfl, h _ (by simp [mdN])⟩
theorem eB_ok' {s : Spc} (h : ∀ n ∈ mdN s.ar.ba, In64 n) : ∀ e ∈ ([(spcC s, 5, s.ar.ba.w), (spcC s, 6, s.ar.ba.m), (spcC s, 7, s.ar.ba.k), (spcC s, 8, s.ar.ba.t)] : List (List D × Nat × Int)), e.1[e.2.1]? = some (.v (.int .i64 e.2.2)) ∧ In64 e.2.2 := by
  intro e he
  simp only [List.mem_cons, List.not_mem_nil, or_false] at he
  rcases he with rfl | rfl | rfl | rfl
  all_goals exact ⟨rfl, h _ (by simp [mdN])⟩
theorem eE_ok {p : Int × Int} (h : ∀ n ∈ n2 p, In64 n) : ∀ e ∈ ([(shC p, 0, p.1), (shC p, 1, p.2)] : List (List D × Nat × Int)), e.1[e.2.1]? = some (.v (.int .i64 e.2.2)) ∧ In64 e.2.2 := by
  intro e he
  simp only [List.mem_cons, List.not_mem_nil, or_false] at he
  rcases he with rfl | rfl
  · exact ⟨rfl, h _ (by simp [n2])⟩
  · exact ⟨rfl, h _ (by simp [n2])⟩
theorem printNo_p (s : Spc) (hc : (ckSpc s).2 ≠ 0) : PCG Tryz.prog GB 11 [.agg (spcC s)] (.tup [.v (.string ⟨#[]⟩), .v (.int .i64 ((ckSpc s).2))]) := by
 refine pcg_of_awpO gb_low Tryz.func11 rfl Tryz.ntmps11 (rs := [.tmp 2, .tmp 3]) Tryz.results11 (by simp) fun w0 hmine hrnd hpn hGB hNG => ?_
 have hG : ∀ w, ExtM w0 w → GW w := fun w h => (hGB w h).1
 refine awp_seq ?_
 refine xa 3 ?_
 refine rg_q (q_box rfl (by exact .inr ⟨_, rfl⟩)) ?_
 refine rg_q (q_a rfl) (rg_q (q_a rfl) ?_)
 refine rs (awp_seq ?_)
 refine xa 7 ?_
 refine rg_q (q_loadA sz32 rfl rfl rfl) ?_
 refine rg_q (q_call en35 (.cons rfl .nil) rfl (checkSpecimen_p _)) ?_
 refine rg_q (q_move (x := .d (.tup _)) rfl) (rg_q (q_extract rfl rfl) (rg_q (q_extract rfl rfl) (rg_q (q_a rfl) (rg_q (q_a rfl) ?_))))
 refine rs (xa 2 ?_)
 refine rg_q (q_m rfl) (rg_q (q_neq rfl rfl) ?_)
 refine xc (awp_cond rfl (fun hc2 => ?_) (fun hc2 => ?_))
 ·
  (try simp only [nb, ne_eq] at hc2)
  refine awp_seq ?_
  refine xa 3 ?_
  refine rg_q (q_m rfl) (rg_q (q_a rfl) (rg_q (q_a rfl) ?_))
  refine xc (awp_ret ?_)
  refine ⟨_, xk2, ?_⟩
  rfl
 ·
  exact absurd (by simpa using hc2) hc
set_option maxHeartbeats 4000000 in
theorem print_p (s : Spc) (hc : (ckSpc s).2 = 0) (hf : ∀ x ∈ s.fl, FlwI x) : PCG Tryz.prog GB 11 [.agg (spcC s)] (.tup [.v (.string (prT s)), .v (.int .i64 (0))]) := by
 have hi := spI_of hc
 obtain ⟨q1, q2, q3, q4⟩ := prE_i hi hf
 have hEl : (prE s).length = s.ar.el.length := List.length_map _
 have hFl : (prF s).length = s.fl.length := List.length_map _
 have g1 := hi.n1
 have g2 := hi.n2'
 have g3 := hi.n3
 have hlf : (⟨#[10]⟩ : ByteArray).size = 1 := rfl
 have i1 : ∀ n ∈ n2 s.ar.ts, In64 n := fun n hn => in64_of (hi.ts n hn)
 have i2 : ∀ n ∈ mdN s.ar.ou, In64 n := fun n hn => in64_of (hi.ou n hn)
 have i3 : ∀ n ∈ mdN s.ar.ba, In64 n := fun n hn => in64_of (hi.ba n hn)
 have i5 : ∀ n ∈ s.pl, In64 n := fun n hn => in64_of (hi.pl n hn)
 have z1 := q1 (wrT timS (n2 s.ar.ts)) (by simp [prH])
 have z2 := q1 (wrT outS (mdN s.ar.ou)) (by simp [prH])
 have z3 := q1 (wrT bacS (mdN s.ar.ba)) (by simp [prH])
 have hH3 : (prH s).length = 3 := rfl
 have zp0 : pulS = mkB (wrT pulS (s.pl.take 0)) := by rw [List.take_zero, wrT_nil]
 refine pcg_of_awpO gb_low Tryz.func11 rfl Tryz.ntmps11 (rs := [.tmp 2, .tmp 3]) Tryz.results11 (by simp) fun w0 hmine hrnd hpn hGB hNG => ?_
 have hG : ∀ w, ExtM w0 w → GW w := fun w h => (hGB w h).1
 refine awp_seq ?_
 refine xa 3 ?_
 refine rg_q (q_box rfl (by exact .inr ⟨_, rfl⟩)) ?_
 refine rg_q (q_a rfl) (rg_q (q_a rfl) ?_)
 refine rs (awp_seq ?_)
 refine xa 7 ?_
 refine rg_q (q_loadA sz32 rfl rfl rfl) ?_
 refine rg_q (q_call en35 (.cons rfl .nil) rfl (checkSpecimen_p _)) ?_
 refine rg_q (q_move (x := .d (.tup _)) rfl) (rg_q (q_extract rfl rfl) (rg_q (q_extract rfl rfl) (rg_q (q_a rfl) (rg_q (q_a rfl) ?_))))
 refine rs (xa 2 ?_)
 refine rg_q (q_m rfl) (rg_q (q_neq rfl rfl) ?_)
 refine xc (awp_cond rfl (fun hc2 => ?_) (fun hc2 => ?_))
 ·
  exact absurd hc (by simpa using hc2)
 ·
  (try simp only [nb, ne_eq] at hc2)
  refine awp_skip ?_
  change Awp _ _ _ _ _
  refine awp_seq ?_
  refine xa 16 ?_
  refine rg_q (q_fieldAddr fld32_0 rfl) (rg_q (q_fieldAddr fld28_3 rfl) (rg_q (q_fieldAddr fld26_0 rfl) (rg_q (q_fieldAddr fld32_0 rfl) (rg_q (q_fieldAddr fld28_3 rfl) (rg_q (q_fieldAddr fld26_1 rfl) ?_)))))
  refine rg_q (q_buildSlice sl77 zr87 rfl rfl (by decide) (.cons rfl (by exact .inl rfl) (.cons rfl (by exact .inl rfl) .nil)) ⟨rfl, rfl, rfl, rfl, trivial⟩ rfl (by decide) rfl) ?_
  refine rg_q (q_callG en26 (.cons rfl (.cons rfl .nil)) rfl hG ((by have q := written_p timS [(spcC s, 9, s.ar.ts.1), (spcC s, 10, s.ar.ts.2)] (by decide) (by simp) (eT_ok i1); exact q))) ?_
  refine rg_q (q_fieldAddr fld32_0 rfl) (rg_q (q_fieldAddr fld28_1 rfl) ?_)
  refine rg_q (q_call en36 (.cons rfl .nil) rfl (modeD_p (spcC s) 1)) ?_
  refine rg_q (q_callG en26 (.cons rfl (.cons rfl .nil)) rfl hG ((by have q := written_p outS [(spcC s, 1, s.ar.ou.w), (spcC s, 2, s.ar.ou.m), (spcC s, 3, s.ar.ou.k), (spcC s, 4, s.ar.ou.t)] (by decide) (by simp) (eO_ok i2); exact q))) ?_
  refine rg_q (q_fieldAddr fld32_0 rfl) (rg_q (q_fieldAddr fld28_2 rfl) ?_)
  refine rg_q (q_call en36 (.cons rfl .nil) rfl (modeD_p (spcC s) 5)) ?_
  refine rg_q (q_callG en26 (.cons rfl (.cons rfl .nil)) rfl hG ((by have q := written_p bacS [(spcC s, 5, s.ar.ba.w), (spcC s, 6, s.ar.ba.m), (spcC s, 7, s.ar.ba.k), (spcC s, 8, s.ar.ba.t)] (by decide) (by simp) (eB_ok' i3); exact q))) ?_
  refine rg_nil ?_
  refine aops_three sl90 zr9 rfl rfl rfl rfl rfl rfl rfl rfl rfl rfl rfl rfl ?_
  refine aops_q rfl (q_assign (x := .rs _) rfl) ?_
  refine aops_nil (xq (awp_seq ?_))
  refine xa 5 ?_
  refine rg_q (q_fieldAddr fld32_0 rfl) (rg_q (q_fieldAddr fld28_0 rfl) (rg_q (q_load sz22 rfl rfl) ?_))
  refine rg_q (q_len isl22 rfl (by exact len_map _ _)) ?_
  refine rg_q (q_m rfl) ?_
  refine xc (awp_len (t := 41) rfl (fun hl41 => ?_))
  (try simp only [List.length_map] at hl41)
  refine awp_block ?_
  refine awp_loopH [6, 8, 43, 44, 45, 46, 47, 48, 49, 50, 51, 52, 53, 54, 38] [38] (α := Nat) (fun k => [(43, T.i (k : Int)), (6, .rs 38)]) (fun k => [(38, .row 9 1 (((prH s ++ (prE s).take k).map mkB).map strC))]) (fun k => k ≤ s.ar.el.length) (fun k => s.ar.el.length - k) 0 (Nat.zero_le _) ?_ ?_
  · exact xh (ms := [38]) (by repeat (exact Out.refl _)) ⟨(by rfl), (by rfl), trivial⟩ ⟨(by rfl), trivial⟩
  ·
   intro k hk
   refine awp_seq ?_
   refine xa 1 ?_
   refine rg_q (q_lss rfl rfl) ?_
   refine rs (awp_cond rfl (fun hc6 => ?_) (fun hc6 => ?_))
   ·
    (try simp only [nb, ne_eq] at hc6)
    have hlt : k < s.ar.el.length := by (try simp only [List.length_map] at hc6); omega
    obtain ⟨p, hx⟩ : ∃ p, s.ar.el[k]? = some p := ⟨_, List.getElem?_eq_getElem hlt⟩
    have hpm := List.mem_of_getElem? hx
    have i4 : ∀ n ∈ n2 p, In64 n := fun n hn => in64_of (hi.el p hpm n hn)
    have hpe : (prE s)[k]? = some (wrT eleS (n2 p)) := by unfold prE; rw [List.getElem?_map, hx]; rfl
    have z4 := q2 _ (List.mem_of_getElem? hpe)
    have htk : (prE s).take (k + 1) = (prE s).take k ++ [wrT eleS (n2 p)] := by rw [List.take_succ_eq_append_getElem (by rw [hEl]; exact hlt), (List.getElem?_eq_some_iff.1 hpe).2]
    have hsk : (((prH s ++ (prE s).take (k + 1)).map mkB).map strC) = (((prH s ++ (prE s).take k).map mkB).map strC) ++ [[.v (.string (mkB (wrT eleS (n2 p))))]] := by rw [htk, ← List.append_assoc]; simp [strC]
    have hel : ((prE s).take k).length ≤ 16 := by rw [List.length_take]; omega
    refine awp_skip ?_
    change Awp _ _ _ _ _
    refine awp_seq ?_
    refine awp_block ?_
    refine awp_seq ?_
    refine xa 2 ?_
    refine rg_q (q_indexAddr sl22 rfl rfl (by omega) (map_at (by omega) hx)) ?_
    refine rg_q (q_loadA (ds := [_, _]) sz37 rfl rfl rfl) ?_
    refine rg_nil ?_
    refine aops_allocD zr37 rfl sz37 rfl rfl (by exact .inr ⟨_, rfl⟩) rfl rfl ?_
    refine aops_nil ?_
    change Awp _ _ _ _ _
    refine xa 6 ?_
    refine rg_q (q_move (x := .rs _) rfl) (rg_q (q_fieldAddr fld37_0 rfl) (rg_q (q_fieldAddr fld37_1 rfl) ?_))
    refine rg_q (q_buildSlice sl77 zr87 rfl rfl (by decide) (.cons rfl (by exact .inl rfl) (.cons rfl (by exact .inl rfl) .nil)) ⟨rfl, rfl, rfl, rfl, trivial⟩ rfl (by decide) rfl) ?_
    refine rg_q (q_callG en26 (.cons rfl (.cons rfl .nil)) rfl hG ((by have q := written_p eleS [(shC p, 0, p.1), (shC p, 1, p.2)] (by decide) (by simp) (eE_ok i4); exact q))) ?_
    refine rg_q (q_buildSlice sl90 zr9 rfl rfl (by decide) (.cons rfl (by exact .inl rfl) .nil) ⟨rfl, rfl, trivial⟩ rfl (by decide) rfl) ?_
    refine rg_nil ?_
    refine aops_append sl90 zr9 by9 rfl (by decide) rfl rfl rfl rfl (by (try simp only [List.length_map, List.length_append, List.length_cons, List.length_nil]); omega) (by (try simp only [List.length_map, List.length_append, List.length_cons, List.length_nil]); omega) rfl rfl ?_
    refine aops_q rfl (q_assign (x := .rs _) rfl) ?_
    refine aops_nil ?_
    change Awp _ _ _ _ _
    refine xa 2 ?_
    refine rg_q (q_add rfl rfl xi) ?_
    refine rg_q (q_m rfl) ?_
    refine rn ?_
    refine ⟨k + 1, by omega, by omega, ?_⟩
    exact xh (ms := [38]) (by repeat (first | exact Out.head rfl rfl | (refine Out.put ?_ rfl) | (refine Out.site ?_ rfl) | (refine Out.killS ?_ rfl))) ⟨(by rfl), (by rfl), trivial⟩ ⟨(by ((show Site.row _ _ (_ ++ [_]) = Site.row _ _ _; rw [hsk]; rfl))), trivial⟩
   ·
    (try simp only [nb, ne_eq] at hc6)
    have hkn : k = s.ar.el.length := by (try simp only [List.length_map] at hc6); omega
    have hE : (prE s).take k = prE s := by rw [hkn, ← hEl, List.take_length]
    rw [hE]
    refine awp_exit ?_
    change Awp _ _ _ _ _
    refine awp_seq ?_
    refine xa 1 ?_
    refine rg_q (q_a rfl) ?_
    refine rs (awp_seq ?_)
    refine xa 4 ?_
    refine rg_q (q_fieldAddr fld32_1 rfl) (rg_q (q_load sz29 rfl rfl) ?_)
    refine rg_q (q_len isl29 rfl (by exact len_map _ _)) ?_
    refine rg_q (q_m rfl) ?_
    refine xc (awp_len (t := 56) rfl (fun hl56 => ?_))
    (try simp only [List.length_map] at hl56)
    refine awp_block ?_
    refine awp_loopH [9, 11, 58, 59, 60, 61, 62, 63, 64, 65, 66, 67] [] (α := Nat) (fun k => [(58, T.i (k : Int)), (9, .d (.v (.string (mkB (wrT pulS (s.pl.take k))))))]) (fun k => []) (fun k => k ≤ s.pl.length) (fun k => s.pl.length - k) 0 (Nat.zero_le _) ?_ ?_
    · exact xh (ms := []) (by repeat (exact Out.refl _)) ⟨(by rfl), (by rfl), trivial⟩ trivial
    ·
     intro k hk
     refine awp_seq ?_
     refine xa 1 ?_
     refine rg_q (q_lss rfl rfl) ?_
     refine rs (awp_cond rfl (fun hc12 => ?_) (fun hc12 => ?_))
     ·
      (try simp only [nb, ne_eq] at hc12)
      have hlt : k < s.pl.length := by (try simp only [List.length_map] at hc12); omega
      obtain ⟨y, hx⟩ : ∃ y, s.pl[k]? = some y := ⟨_, List.getElem?_eq_getElem hlt⟩
      have hyi := i5 y (List.mem_of_getElem? hx)
      have hyl := itoa_len hyi
      have tl := wrT_len (wd := pulS) (ns := s.pl.take k) fun n hn => i5 n (List.mem_of_mem_take hn)
      rw [List.length_take, show pulS.size = 5 from rfl] at tl
      have hsz := mkB_size (wrT pulS (s.pl.take k))
      have hsy := mkB_size (Lib.itoa y)
      have hs1 : (⟨#[32]⟩ : ByteArray).size = 1 := rfl
      have hs3 : (⟨#[32]⟩ ++ mkB (Lib.itoa y)).size = 1 + (mkB (Lib.itoa y)).size := by rw [ByteArray.size_append]; rfl
      have hst : mkB (wrT pulS (s.pl.take k)) ++ (⟨#[32]⟩ ++ mkB (Lib.itoa y)) = mkB (wrT pulS (s.pl.take (k + 1))) := by rw [← ByteArray.append_assoc, wrT_snoc, List.take_succ_eq_append_getElem hlt, (List.getElem?_eq_some_iff.1 hx).2]
      refine awp_skip ?_
      change Awp _ _ _ _ _
      refine awp_seq ?_
      refine awp_block ?_
      refine awp_seq ?_
      refine xa 3 ?_
      refine rg_q (q_indexAddr sl29 rfl rfl (by omega) (map_at (by omega) hx)) ?_
      refine rg_q (q_load sz3 rfl rfl) (rg_q (q_a rfl) ?_)
      refine rn ?_
      change Awp _ _ _ _ _
      refine xa 6 ?_
      refine rg_q (q_m rfl) (rg_q (q_m rfl) ?_)
      refine rg_q (q_callG en37 (.cons rfl .nil) rfl hG (itoa_p y hyi)) ?_
      refine rg_q (q_adds rfl rfl (by omega)) ?_
      refine rg_q (q_adds rfl rfl (by omega)) ?_
      refine rg_q (q_a rfl) ?_
      refine rn ?_
      change Awp _ _ _ _ _
      refine xa 2 ?_
      refine rg_q (q_add rfl rfl xi) ?_
      refine rg_q (q_m rfl) ?_
      refine rn ?_
      refine ⟨k + 1, by omega, by omega, ?_⟩
      exact xh (ms := []) (by repeat (first | exact Out.head rfl rfl | (refine Out.put ?_ rfl))) ⟨(by rfl), (by (exact congrArg (fun b => T.d (.v (.string b))) hst)), trivial⟩ trivial
     ·
      (try simp only [nb, ne_eq] at hc12)
      have hkn : k = s.pl.length := by (try simp only [List.length_map] at hc12); omega
      rw [hkn, List.take_length]
      have hsk : (((prH s ++ prE s ++ [wrT pulS s.pl] ++ (prF s).take 0).map mkB).map strC) = (((prH s ++ prE s).map mkB).map strC) ++ [[.v (.string (mkB (wrT pulS s.pl)))]] := by rw [List.take_zero, List.append_nil]; simp [strC]
      have hel : (prE s).length ≤ 16 := by omega
      refine awp_exit ?_
      change Awp _ _ _ _ _
      refine awp_seq ?_
      refine xa 3 ?_
      refine rg_q (q_move (x := .rs _) rfl) (rg_q (q_m rfl) ?_)
      refine rg_q (q_buildSlice sl90 zr9 rfl rfl (by decide) (.cons rfl (by exact .inl rfl) .nil) ⟨rfl, rfl, trivial⟩ rfl (by decide) rfl) ?_
      refine rg_nil ?_
      refine aops_append sl90 zr9 by9 rfl (by decide) rfl rfl rfl rfl (by (try simp only [List.length_map, List.length_append, List.length_cons, List.length_nil]); omega) (by (try simp only [List.length_map, List.length_append, List.length_cons, List.length_nil]); omega) rfl rfl ?_
      refine aops_q rfl (q_assign (x := .rs _) rfl) ?_
      refine aops_nil (xq (awp_seq ?_))
      refine xa 4 ?_
      refine rg_q (q_fieldAddr fld32_2 rfl) (rg_q (q_load sz30 rfl rfl) ?_)
      refine rg_q (q_len isl30 rfl (by exact len_map _ _)) ?_
      refine rg_q (q_m rfl) ?_
      refine xc (awp_len (t := 73) rfl (fun hl73 => ?_))
      (try simp only [List.length_map] at hl73)
      refine awp_block ?_
      refine awp_loopH [6, 13, 75, 76, 77, 78, 79, 80, 81, 82, 83, 84, 38] [38] (α := Nat) (fun k => [(75, T.i (k : Int)), (6, .rs 38)]) (fun k => [(38, .row 9 1 (((prH s ++ prE s ++ [wrT pulS s.pl] ++ (prF s).take k).map mkB).map strC))]) (fun k => k ≤ s.fl.length) (fun k => s.fl.length - k) 0 (Nat.zero_le _) ?_ ?_
      · exact xh (ms := [38]) (by repeat (exact Out.refl _)) ⟨(by rfl), (by rfl), trivial⟩ ⟨(by ((show Site.row _ _ (_ ++ [_]) = Site.row _ _ _; rw [hsk]; rfl))), trivial⟩
      ·
       intro k hk
       refine awp_seq ?_
       refine xa 1 ?_
       refine rg_q (q_lss rfl rfl) ?_
       refine rs (awp_cond rfl (fun hc18 => ?_) (fun hc18 => ?_))
       ·
        (try simp only [nb, ne_eq] at hc18)
        have hlt : k < s.fl.length := by (try simp only [List.length_map] at hc18); omega
        obtain ⟨x, hx⟩ : ∃ x, s.fl[k]? = some x := ⟨_, List.getElem?_eq_getElem hlt⟩
        have hxi := hf x (List.mem_of_getElem? hx)
        have hpf : (prF s)[k]? = some (flT x).data.toList := by unfold prF; rw [List.getElem?_map, hx]; rfl
        have z5 := q4 _ (List.mem_of_getElem? hpf)
        have z6 : (flT x).size = (flT x).data.toList.length := Lib.size_eq _
        have htk : (prF s).take (k + 1) = (prF s).take k ++ [(flT x).data.toList] := by rw [List.take_succ_eq_append_getElem (by rw [hFl]; exact hlt), (List.getElem?_eq_some_iff.1 hpf).2]
        have hsk : (((prH s ++ prE s ++ [wrT pulS s.pl] ++ (prF s).take (k + 1)).map mkB).map strC) = (((prH s ++ prE s ++ [wrT pulS s.pl] ++ (prF s).take k).map mkB).map strC) ++ [[.v (.string (flT x))]] := by
         rw [htk, ← List.append_assoc, List.map_append, List.map_append]
         simp [strC, mkB_data]
        have hel : (prE s).length ≤ 16 := by omega
        have hfl2 : ((prF s).take k).length ≤ 10 := by rw [List.length_take]; omega
        refine awp_skip ?_
        change Awp _ _ _ _ _
        refine awp_seq ?_
        refine awp_block ?_
        refine awp_seq ?_
        refine xa 2 ?_
        refine rg_q (q_indexAddr sl30 rfl rfl (by omega) (map_at (by omega) hx)) ?_
        refine rg_q (q_loadA (ds := [_, _, _, _, _, _, _, _]) sz39 rfl rfl rfl) ?_
        refine rg_nil ?_
        refine aops_allocD zr39 rfl sz39 rfl rfl (by exact .inr ⟨_, rfl⟩) rfl rfl ?_
        refine aops_nil ?_
        change Awp _ _ _ _ _
        refine xa 4 ?_
        refine rg_q (q_move (x := .rs _) rfl) ?_
        refine rg_q (q_loadA (ds := [_, _, _, _, _, _, _, _]) sz39 rfl rfl rfl) ?_
        refine rg_q (q_callG en6 (.cons rfl .nil) rfl hGB (formatFlaw_p x hxi)) ?_
        refine rg_q (q_buildSlice sl90 zr9 rfl rfl (by decide) (.cons rfl (by exact .inl rfl) .nil) ⟨rfl, rfl, trivial⟩ rfl (by decide) rfl) ?_
        refine rg_nil ?_
        refine aops_append sl90 zr9 by9 rfl (by decide) rfl rfl rfl rfl (by (try simp only [List.length_map, List.length_append, List.length_cons, List.length_nil]); omega) (by (try simp only [List.length_map, List.length_append, List.length_cons, List.length_nil]); omega) rfl rfl ?_
        refine aops_q rfl (q_assign (x := .rs _) rfl) ?_
        refine aops_nil ?_
        change Awp _ _ _ _ _
        refine xa 2 ?_
        refine rg_q (q_add rfl rfl xi) ?_
        refine rg_q (q_m rfl) ?_
        refine rn ?_
        refine ⟨k + 1, by omega, by omega, ?_⟩
        exact xh (ms := [38]) (by repeat (first | exact Out.head rfl rfl | (refine Out.put ?_ rfl) | (refine Out.site ?_ rfl) | (refine Out.killS ?_ rfl))) ⟨(by rfl), (by rfl), trivial⟩ ⟨(by ((show Site.row _ _ (_ ++ [_]) = Site.row _ _ _; rw [hsk]; rfl))), trivial⟩
       ·
        (try simp only [nb, ne_eq] at hc18)
        have hkn : k = s.fl.length := by (try simp only [List.length_map] at hc18); omega
        have hrow : (((prH s ++ prE s ++ [wrT pulS s.pl] ++ (prF s).take k).map mkB).map strC) = ((prL s).map mkB).map strC := by rw [hkn, ← hFl, List.take_length]; rfl
        have hj : mkB (Lib.join (prL s) [10]) ++ ⟨#[10]⟩ = prT s := by
         rw [show (⟨#[10]⟩ : ByteArray) = mkB [10] from rfl, mkB_app]
         unfold prT prL prH
         exact congrArg mkB (join_flat _ _)
        have hall := len_app (len_app (len_app q1 q2) (Y := [wrT pulS s.pl]) (by simpa using q3)) q4
        have hfl3 := flat_len (X := prL s) hall
        have hjl : (Lib.join (prL s) [10]).length + 1 = (flat (prL s)).length := by
         have e : Lib.join (prL s) [10] ++ [10] = flat (prL s) := by unfold prL prH; exact join_flat _ _
         rw [← e, List.length_append]; rfl
        have hpl : (prL s).length ≤ 30 := by unfold prL; simp only [List.length_append, List.length_cons, List.length_nil]; omega
        have hjs := mkB_size (Lib.join (prL s) [10])
        refine awp_exit ?_
        change Awp _ _ _ _ _
        refine awp_seq ?_
        refine Awp.le (le_freezeR (es := ((prL s).map mkB).map strC) 38 6 (by show Site.row _ _ _ = _; rw [hrow]) rfl rfl rfl hmine) ?_
        refine xa 5 ?_
        refine rg_q (q_move (x := .d (.sl _ _)) rfl) ?_
        refine rg_q (q_callG en38 (.cons rfl (.cons rfl .nil)) rfl hG (joinN_p (prL s) (by unfold prL prH; simp) (by unfold prL; simp only [List.length_append, List.length_cons, List.length_nil]; omega) (by omega))) ?_
        refine rg_q (q_adds rfl rfl (by omega)) ?_
        refine rg_q (q_a rfl) (rg_q (q_a rfl) ?_)
        refine xc (awp_ret ?_)
        refine ⟨_, xk2, ?_⟩
        rw [hj]; rfl
end Go.Proofs.YtkbdnkjjklbddaaGreatDoor.Am.M
