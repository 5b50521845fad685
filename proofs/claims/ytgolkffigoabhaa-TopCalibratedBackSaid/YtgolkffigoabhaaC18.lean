/- Contracts over the abstract machine: arcs. Conditions: none. -/
import Derived.Test.YtgolkffigoabhaaC10
import Derived.Test.YtgolkffigoabhaaAmD
set_option linter.unusedVariables false
set_option linter.unusedSimpArgs false
namespace Go.Proofs.Ytgolkffigoabhaa.Am.M
open Go

theorem arcs_at {l : List Arc} {k : Nat} (h : k < l.length) : l.getD k ⟨0, 0, 0⟩ = l[k] := by simp [h]
theorem pairsTo_succ (l : List Arc) (k : Nat) (h : k < l.length) : pairsTo l (k + 1) = pairsTo l k ++ (l.take k).map fun a => (a, l[k]) := by simp only [pairsTo]; rw [arcs_at h]
theorem pairs_pre {l : List Arc} {k j : Nat} {a x : Arc} (hk : k < l.length) (hx : l[k]? = some x) (hj : (l.take k)[j]? = some a) : (pairsTo l k ++ ((l.take k).take j).map (fun a => (a, x))) ++ [(a, x)] <+: pairsTo l l.length := by
  refine List.IsPrefix.trans ?_ (pairsTo_prefix l (show k + 1 ≤ l.length by omega))
  rw [pairsTo_succ l k hk, List.append_assoc]
  have hxe : l[k] = x := (List.getElem?_eq_some_iff.1 hx).2
  rw [hxe]
  have hjl := (List.getElem?_eq_some_iff.1 hj).1
  have hja := (List.getElem?_eq_some_iff.1 hj).2
  have e : ((l.take k).take j).map (fun a => (a, x)) ++ [(a, x)] = ((l.take k).take (j + 1)).map (fun a => (a, x)) := by
    rw [List.take_succ_eq_append_getElem hjl, List.map_append, hja]; rfl
  rw [e]
  exact List.prefix_append_right_inj _ |>.2 ((List.take_prefix _ _).map _)
set_option maxRecDepth 100000 in
theorem pairs_i (l : List Arc) : PI Try.prog 28 [.sl 3 (l.map arcC)] [] (fun p : Arc × Arc => [.agg (arcC p.1), .agg (arcC p.2)]) (pairsTo l l.length) true := by
  refine pi_of_iwp Try.func28 rfl Try.ntmps28 rfl rfl fun J c l0 hJ hy hdat hfin => ?_
  refine iwp_seq ?_
  apply iwp_reg hJ
  ·
    intro c1 hmine hrnd
    refine awp_region 3 mixed (by kernel_rfl) ?_
    first | refine rg_q (q_move (x := .d (.sl _ _)) rfl) ?_ | refine rg_q (q_move (x := .rs _) rfl) ?_ | refine rg_q (q_move (x := .d (.v _)) rfl) ?_
    first | refine rg_q (q_len isl58 rfl (by first | exact len_map _ _ | rfl)) ?_ | refine rg_q (q_len_rs isl58 rfl rfl) ?_ | refine rg_q (q_len_nil isl58 rfl) ?_
    refine rg_q (q_move (x := .d (.v _)) rfl) ?_
    refine rg_nil ?_
    refine aops_nil ?_
    exact ⟨rfl, rfl⟩
  change Iwp _ _ _ _ _ _ _
  first | refine iwp_len (t := 8) rfl (fun hl8 => ?_) | skip
  (try simp only [List.length_map] at hl8)
  refine iwp_block ?_
  refine iwp_loopH [4, 5, 7, 10, 11, 12, 13, 14, 15, 16, 17, 18, 19, 20, 21, 22, 23, 24, 25, 26, 27, 28, 29] [] (β := Nat) (fun k => [(10, T.i (k : Int))]) (fun k => []) (fun k => (true, pairsTo l k)) (fun k => k ≤ l.length) (fun k => l.length - k) 0 (Nat.zero_le _) rfl (fun c1 => ?_) ?_
  · exact le_head (ms := []) (by repeat (first | exact Out.refl _ | exact Out.head rfl rfl | (refine Out.put ?_ rfl) | (refine Out.site ?_ rfl) | (refine Out.putn ?_) | (refine Out.headIn ?_ rfl rfl rfl) | (refine Out.called ?_ rfl rfl))) ⟨(by first | rfl | (simp; done)), trivial⟩ trivial rfl rfl rfl rfl
  ·
    intro k hk
    refine iwp_seq ?_
    apply iwp_reg hJ
    ·
      intro c1 hmine hrnd
      refine awp_region 1 mixed (by kernel_rfl) ?_
      refine rg_q (q_lss rfl rfl) ?_
      refine rg_nil ?_
      refine aops_nil ?_
      exact ⟨rfl, rfl⟩
    change Iwp _ _ _ _ _ _ _
    refine iwp_seq ?_
    refine iwp_cond rfl (fun hc1 => ?_) (fun hc1 => ?_)
    ·
      (try simp only [decide_eq_true_eq, decide_eq_false_iff_not, Bool.and_eq_true, Bool.or_eq_true, Bool.and_eq_false_iff, Bool.or_eq_false_iff, Bool.not_eq_true', Bool.not_eq_false', Bool.not_true, Bool.not_false, bif_and, bif_or, Bool.not_not, ne_eq, Decidable.not_not, not_true_eq_false, not_false_eq_true, Int.not_le, Int.not_lt] at hc1)
      have hlt : k < l.length := by omega
      obtain ⟨x, hx⟩ : ∃ x, l[k]? = some x := ⟨_, List.getElem?_eq_getElem hlt⟩
      have hxe : l[k] = x := (List.getElem?_eq_some_iff.1 hx).2
      have hlk : (l.take k).length = k := by rw [List.length_take]; omega
      refine iwp_skip ?_
      change Iwp _ _ _ _ _ _ _
      refine iwp_seq ?_
      refine iwp_block ?_
      refine iwp_seq ?_
      apply iwp_reg hJ
      ·
        intro c1 hmine hrnd
        refine awp_region 3 mixed (by kernel_rfl) ?_
        refine rg_q (q_move (x := .d (.v _)) rfl) ?_
        first | refine rg_q (q_indexAddr sl58 rfl rfl (by omega) (map_at (by omega) hx)) ?_ | refine rg_q (q_indexAddr sl58 rfl rfl (by omega) (map_at (by omega) hy0)) ?_ | refine rg_q (q_indexAddr_rs sl58 rfl rfl rfl (by omega) (by omega)) ?_
        first | refine rg_q (q_loadA (ds := [_, _, _]) sz34 rfl rfl rfl) ?_ | refine rg_q (q_load_refA (ds := [_, _, _]) sz34 rfl rfl rfl rfl) ?_
        refine rg_nil ?_
        refine aops_alloc zr34 rfl rfl rfl ?_
        refine aops_q rfl (q_assign (x := .d (.v _)) rfl) ?_
        first | refine aops_store sz34 rfl rfl (by first | exact .inl rfl | exact .inr ⟨_, rfl⟩) rfl rfl (by first | decide | simp; done | exact Nat.le_of_ble_eq_true rfl) rfl ?_ | refine aops_storeT (z := .rs _) sz34 rfl rfl rfl rfl (by first | decide | simp) rfl ?_ | refine aops_storeT (z := .d _) sz34 rfl rfl rfl rfl (by first | decide | simp) rfl ?_ | refine aops_storeTA sz34 rfl rfl (by first | exact .inl rfl | exact .inr ⟨_, rfl⟩) rfl rfl (by first | decide | simp) rfl ?_
        refine aops_nil ?_
        exact ⟨rfl, rfl⟩
      change Iwp _ _ _ _ _ _ _
      refine iwp_seq ?_
      apply iwp_reg hJ
      ·
        intro c1 hmine hrnd
        refine awp_region 5 mixed (by kernel_rfl) ?_
        first | refine rg_q (q_move (x := .d (.sl _ _)) rfl) ?_ | refine rg_q (q_move (x := .rs _) rfl) ?_ | refine rg_q (q_move (x := .d (.v _)) rfl) ?_
        refine rg_q (q_move (x := .d (.v _)) rfl) ?_
        refine rg_q (q_slice sl58 rfl rfl rfl (by (try simp only [List.length_map]); omega) (by (try simp only [List.length_map]); omega) (by first | exact map_slice _ _ _ _ | rfl)) ?_
        first | refine rg_q (q_len isl58 rfl (by first | exact len_map _ _ | rfl)) ?_ | refine rg_q (q_len_rs isl58 rfl rfl) ?_ | refine rg_q (q_len_nil isl58 rfl) ?_
        refine rg_q (q_move (x := .d (.v _)) rfl) ?_
        refine rg_nil ?_
        refine aops_nil ?_
        exact ⟨rfl, rfl⟩
      change Iwp _ _ _ _ _ _ _
      first | refine iwp_len (t := 17) rfl (fun hl17 => ?_) | skip
      (try simp only [List.length_map] at hl17)
      (try simp only [List.drop_zero, List.length_map] at hl17)
      refine iwp_block ?_
      refine iwp_loopH [7, 19, 20, 21, 22, 23, 24, 25, 26, 27, 28] [] (β := Nat) (fun j => [(19, T.i (j : Int))]) (fun j => []) (fun j => (true, pairsTo l k ++ ((l.take k).take j).map fun a => (a, x))) (fun j => j ≤ (l.take k).length) (fun j => (l.take k).length - j) 0 (Nat.zero_le _) (by simp) (fun c1 => ?_) ?_
      · exact le_head (ms := []) (by repeat (first | exact Out.refl _ | exact Out.head rfl rfl | (refine Out.put ?_ rfl) | (refine Out.site ?_ rfl) | (refine Out.putn ?_) | (refine Out.headIn ?_ rfl rfl rfl) | (refine Out.called ?_ rfl rfl))) ⟨(by first | rfl | (simp; done)), trivial⟩ trivial rfl rfl rfl rfl
      ·
        intro j hj
        refine iwp_seq ?_
        apply iwp_reg hJ
        ·
          intro c1 hmine hrnd
          refine awp_region 1 mixed (by kernel_rfl) ?_
          refine rg_q (q_lss rfl rfl) ?_
          refine rg_nil ?_
          refine aops_nil ?_
          exact ⟨rfl, rfl⟩
        change Iwp _ _ _ _ _ _ _
        refine iwp_seq ?_
        refine iwp_cond rfl (fun hc4 => ?_) (fun hc4 => ?_)
        ·
          (try simp only [decide_eq_true_eq, decide_eq_false_iff_not, Bool.and_eq_true, Bool.or_eq_true, Bool.and_eq_false_iff, Bool.or_eq_false_iff, Bool.not_eq_true', Bool.not_eq_false', Bool.not_true, Bool.not_false, bif_and, bif_or, Bool.not_not, ne_eq, Decidable.not_not, not_true_eq_false, not_false_eq_true, Int.not_le, Int.not_lt] at hc4)
          simp only [List.drop_zero] at hc4
          have hjt : j < (l.take k).length := by omega
          obtain ⟨y, hy0⟩ : ∃ y, (l.take k)[j]? = some y := ⟨_, List.getElem?_eq_getElem hjt⟩
          have hya : (l.take k)[j] = y := (List.getElem?_eq_some_iff.1 hy0).2
          refine iwp_skip ?_
          change Iwp _ _ _ _ _ _ _
          refine iwp_seq ?_
          refine iwp_block ?_
          refine iwp_seq ?_
          apply iwp_reg hJ
          ·
            intro c1 hmine hrnd
            refine awp_region 2 mixed (by kernel_rfl) ?_
            first | refine rg_q (q_indexAddr sl58 rfl rfl (by omega) (map_at (by omega) hx)) ?_ | refine rg_q (q_indexAddr sl58 rfl rfl (by omega) (map_at (by omega) hy0)) ?_ | refine rg_q (q_indexAddr_rs sl58 rfl rfl rfl (by omega) (by omega)) ?_
            first | refine rg_q (q_loadA (ds := [_, _, _]) sz34 rfl rfl rfl) ?_ | refine rg_q (q_load_refA (ds := [_, _, _]) sz34 rfl rfl rfl rfl) ?_
            refine rg_nil ?_
            refine aops_alloc zr34 rfl rfl rfl ?_
            first | refine aops_store sz34 rfl rfl (by first | exact .inl rfl | exact .inr ⟨_, rfl⟩) rfl rfl (by first | decide | simp; done | exact Nat.le_of_ble_eq_true rfl) rfl ?_ | refine aops_storeT (z := .rs _) sz34 rfl rfl rfl rfl (by first | decide | simp) rfl ?_ | refine aops_storeT (z := .d _) sz34 rfl rfl rfl rfl (by first | decide | simp) rfl ?_ | refine aops_storeTA sz34 rfl rfl (by first | exact .inl rfl | exact .inr ⟨_, rfl⟩) rfl rfl (by first | decide | simp) rfl ?_
            refine aops_nil ?_
            exact ⟨rfl, rfl⟩
          change Iwp _ _ _ _ _ _ _
          refine iwp_seq ?_
          refine iwp_region ?_
          refine iops_of hJ rfl (fun c1 _ _ _ h => by exact aops_q rfl ((q_move (x := .d (.fn _ _)) rfl)) h) ?_
          first | refine iops_of hJ rfl (fun c1 _ _ _ h => by exact aops_q rfl ((q_loadA (ds := [_, _, _]) sz34 rfl rfl rfl)) h) ?_ | refine iops_of hJ rfl (fun c1 _ _ _ h => by exact aops_q rfl ((q_load_refA (ds := [_, _, _]) sz34 rfl rfl rfl rfl)) h) ?_
          first | refine iops_of hJ rfl (fun c1 _ _ _ h => by exact aops_q rfl ((q_loadA (ds := [_, _, _]) sz34 rfl rfl rfl)) h) ?_ | refine iops_of hJ rfl (fun c1 _ _ _ h => by exact aops_q rfl ((q_load_refA (ds := [_, _, _]) sz34 rfl rfl rfl rfl)) h) ?_
          refine iops_yield (x := (y, x)) hy hdat rfl (.cons rfl (.cons rfl .nil)) (pairs_pre hlt hx hy0) rfl (fun yb => ?_)
          refine iops_of hJ rfl (fun c1 _ _ _ h => by exact aops_q rfl ((q_not rfl)) h) ?_
          refine iops_nil ?_
          change Iwp _ _ _ _ _ _ _
          refine iwp_cond rfl (fun hc6 => ?_) (fun hc6 => ?_)
          ·
            (try simp only [decide_eq_true_eq, decide_eq_false_iff_not, Bool.and_eq_true, Bool.or_eq_true, Bool.and_eq_false_iff, Bool.or_eq_false_iff, Bool.not_eq_true', Bool.not_eq_false', Bool.not_true, Bool.not_false, bif_and, bif_or, Bool.not_not, ne_eq, Decidable.not_not, not_true_eq_false, not_false_eq_true, Int.not_le, Int.not_lt] at hc6)
            have hyb : yb = false := by cases yb <;> simp_all
            refine iwp_ret ?_
            exact ⟨.inl rfl, fun h => by rw [hyb] at h; cases h⟩
          ·
            (try simp only [decide_eq_true_eq, decide_eq_false_iff_not, Bool.and_eq_true, Bool.or_eq_true, Bool.and_eq_false_iff, Bool.or_eq_false_iff, Bool.not_eq_true', Bool.not_eq_false', Bool.not_true, Bool.not_false, bif_and, bif_or, Bool.not_not, ne_eq, Decidable.not_not, not_true_eq_false, not_false_eq_true, Int.not_le, Int.not_lt] at hc6)
            have hyb : yb = true := by cases yb <;> simp_all
            refine iwp_skip ?_
            change Iwp _ _ _ _ _ _ _
            apply iwp_reg hJ
            ·
              intro c1 hmine hrnd
              refine awp_region 2 mixed (by kernel_rfl) ?_
              refine rg_q (q_add rfl rfl (In64.mk (by omega) (by omega))) ?_
              refine rg_q (q_move (x := .d (.v _)) rfl) ?_
              refine rg_nil ?_
              refine aops_nil ?_
              exact ⟨rfl, rfl⟩
            refine ⟨j + 1, by omega, by omega, by rw [hyb, List.take_succ_eq_append_getElem hjt, List.map_append, hya]; simp, fun c1 => ?_⟩
            exact le_head (ms := []) (by repeat (first | exact Out.refl _ | exact Out.head rfl rfl | (refine Out.put ?_ rfl) | (refine Out.site ?_ rfl) | (refine Out.putn ?_) | (refine Out.headIn ?_ rfl rfl rfl) | (refine Out.called ?_ rfl rfl))) ⟨(by first | rfl | (simp; done)), trivial⟩ trivial rfl rfl rfl rfl
        ·
          (try simp only [decide_eq_true_eq, decide_eq_false_iff_not, Bool.and_eq_true, Bool.or_eq_true, Bool.and_eq_false_iff, Bool.or_eq_false_iff, Bool.not_eq_true', Bool.not_eq_false', Bool.not_true, Bool.not_false, bif_and, bif_or, Bool.not_not, ne_eq, Decidable.not_not, not_true_eq_false, not_false_eq_true, Int.not_le, Int.not_lt] at hc4)
          simp only [List.drop_zero] at hc4
          have hjl : j = (l.take k).length := by omega
          refine iwp_exit ?_
          change Iwp _ _ _ _ _ _ _
          apply iwp_reg hJ
          ·
            intro c1 hmine hrnd
            refine awp_region 2 mixed (by kernel_rfl) ?_
            refine rg_q (q_add rfl rfl (In64.mk (by omega) (by omega))) ?_
            refine rg_q (q_move (x := .d (.v _)) rfl) ?_
            refine rg_nil ?_
            refine aops_nil ?_
            exact ⟨rfl, rfl⟩
          refine ⟨k + 1, by omega, by omega, by rw [pairsTo_succ l k hlt, hxe, hjl, List.take_length], fun c1 => ?_⟩
          exact le_head (ms := []) (by repeat (first | exact Out.refl _ | exact Out.head rfl rfl | (refine Out.put ?_ rfl) | (refine Out.site ?_ rfl) | (refine Out.putn ?_) | (refine Out.headIn ?_ rfl rfl rfl) | (refine Out.called ?_ rfl rfl))) ⟨(by first | rfl | (simp; done)), trivial⟩ trivial rfl rfl rfl rfl
    ·
      (try simp only [decide_eq_true_eq, decide_eq_false_iff_not, Bool.and_eq_true, Bool.or_eq_true, Bool.and_eq_false_iff, Bool.or_eq_false_iff, Bool.not_eq_true', Bool.not_eq_false', Bool.not_true, Bool.not_false, bif_and, bif_or, Bool.not_not, ne_eq, Decidable.not_not, not_true_eq_false, not_false_eq_true, Int.not_le, Int.not_lt] at hc1)
      have hkl : k = l.length := by omega
      refine iwp_exit ?_
      exact ⟨.inr rfl, fun _ => by rw [hkl]⟩

theorem openA_p (l : List Arc) : PC Try.prog 21 [.sl 3 (l.map arcC)] (.tup [.sl 3 (l.map arcC), .v (.int .i64 (ckA l).2)]) := by
  intro w ok vs hL
  match vs, hL with
  | [v], ⟨h, _⟩ =>
    obtain ⟨A, c, rfl, h1, h2, h3⟩ := arcs_of h
    refine (open_c l A c w h3).mono ?_
    rintro e w' ⟨rfl, hE⟩
    exact ⟨_, rfl, hE, rep_tup (vs := [.slice A l.length c, .int .i64 (ckA l).2]) ⟨h.ext hE fun b _ hb => .inl hb, .v _ rfl, trivial⟩⟩
def qC (q : Int × Int) : List D := [.v (.int .i64 q.1), .v (.int .i64 q.2)]
theorem slowness_p (l : List Arc) (hok : ArcsOk l) : PC Try.prog 27 [.sl 3 (l.map arcC)] (.tup [.agg (qC (slowOf l).le), .agg (qC (slowOf l).mo), .v (.bool (!lessB (slowOf l).mo (slowOf l).le))]) := by
  intro w ok vs hL
  match vs, hL with
  | [v], ⟨h, _⟩ =>
    obtain ⟨A, c, rfl, h1, h2, h3⟩ := arcs_of h
    rcases h3 with h3 | ⟨b, off, rfl, hb, hR⟩
    · have := hok.two; rw [h3] at this; simp at this
    · refine (slowness_c l b off c w hb hR hok.few h1 fun x hx => (hok.ok x hx).1).mono ?_
      rintro e w' ⟨rfl, hE⟩
      exact ⟨_, rfl, hE, rep_tup (vs := [aggP (slowOf l).le, aggP (slowOf l).mo, .bool (!lessB (slowOf l).mo (slowOf l).le)]) ⟨rep_ints [(slowOf l).le.1, (slowOf l).le.2], rep_ints [(slowOf l).mo.1, (slowOf l).mo.2], .v _ rfl, trivial⟩⟩
def maxF (l : List Int) : Int := match l with
  | [] => 0
  | x :: xs => xs.foldl max x
def minF (l : List Int) : Int := match l with
  | [] => 0
  | x :: xs => xs.foldl min x
theorem maxF_snoc {l : List Int} {k : Nat} {x : Int} (h0 : 1 ≤ k) (hx : l[k]? = some x) : maxF (l.take (k + 1)) = max (maxF (l.take k)) x := by
  obtain ⟨hlt, rfl⟩ := List.getElem?_eq_some_iff.1 hx
  obtain ⟨y, ys, rfl⟩ : ∃ y ys, l = y :: ys := by cases l with
    | nil => simp at hlt
    | cons y ys => exact ⟨y, ys, rfl⟩
  obtain ⟨k, rfl⟩ : ∃ j, k = j + 1 := ⟨k - 1, by omega⟩
  have hk : k < ys.length := by simpa using hlt
  simp only [List.take_succ_cons, maxF, List.getElem_cons_succ]
  rw [List.take_succ_eq_append_getElem hk, List.foldl_append]; rfl
theorem minF_snoc {l : List Int} {k : Nat} {x : Int} (h0 : 1 ≤ k) (hx : l[k]? = some x) : minF (l.take (k + 1)) = min (minF (l.take k)) x := by
  obtain ⟨hlt, rfl⟩ := List.getElem?_eq_some_iff.1 hx
  obtain ⟨y, ys, rfl⟩ : ∃ y ys, l = y :: ys := by cases l with
    | nil => simp at hlt
    | cons y ys => exact ⟨y, ys, rfl⟩
  obtain ⟨k, rfl⟩ : ∃ j, k = j + 1 := ⟨k - 1, by omega⟩
  have hk : k < ys.length := by simpa using hlt
  simp only [List.take_succ_cons, minF, List.getElem_cons_succ]
  rw [List.take_succ_eq_append_getElem hk, List.foldl_append]; rfl
set_option maxRecDepth 100000 in
theorem maxI_p (l : List Int) (hl : 1 ≤ l.length) : PC Try.prog 31 [.sl 1 (l.map iC)] (.v (.int .i64 (maxF l))) := by
  have hz : maxF l = maxF (l.take l.length) := by rw [List.take_length]
  obtain ⟨z, hz0⟩ : ∃ z, l[0]? = some z := ⟨_, List.getElem?_eq_getElem (by omega)⟩
  have h1 : maxF (l.take 1) = z := by
    cases l with
    | nil => simp at hl
    | cons y ys => simp at hz0; subst hz0; rfl
  refine pc_of_awp Try.func31 rfl Try.ntmps31 (rs := [.tmp 2]) Try.results31 (by simp) fun w0 => ?_
  refine awp_seq ?_
  refine awp_region 1 mixed (by kernel_rfl) ?_
  refine rg_q (q_assign (x := .d (.v _)) rfl) ?_
  refine rg_nil ?_
  refine aops_nil ?_
  change Awp _ _ _ _ _
  refine awp_seq ?_
  refine awp_seq ?_
  refine awp_region 3 mixed (by kernel_rfl) ?_
  first | refine rg_q (q_move (x := .d (.sl _ _)) rfl) ?_ | refine rg_q (q_move (x := .rs _) rfl) ?_ | refine rg_q (q_move (x := .d (.v _)) rfl) ?_
  first | refine rg_q (q_len isl22 rfl (by first | exact len_map _ _ | rfl)) ?_ | refine rg_q (q_len_rs isl22 rfl rfl) ?_ | refine rg_q (q_len_nil isl22 rfl) ?_
  refine rg_q (q_lss rfl rfl) ?_
  refine rg_nil ?_
  refine aops_nil ?_
  change Awp _ _ _ _ _
  first | refine awp_len (t := 5) rfl (fun hl5 => ?_) | skip
  (try simp only [List.length_map] at hl5)
  refine awp_cond rfl (fun hc1 => ?_) (fun hc1 => ?_)
  ·
    exfalso; (try simp only [decide_eq_true_eq, decide_eq_false_iff_not, Bool.and_eq_true, Bool.or_eq_true, Bool.and_eq_false_iff, Bool.or_eq_false_iff, Bool.not_eq_true', Bool.not_eq_false', Bool.not_true, Bool.not_false, bif_and, bif_or, Bool.not_not, ne_eq, Decidable.not_not, not_true_eq_false, not_false_eq_true, Int.not_le, Int.not_lt] at hc1); first | omega | simp_all
  ·
    (try simp only [decide_eq_true_eq, decide_eq_false_iff_not, Bool.and_eq_true, Bool.or_eq_true, Bool.and_eq_false_iff, Bool.or_eq_false_iff, Bool.not_eq_true', Bool.not_eq_false', Bool.not_true, Bool.not_false, bif_and, bif_or, Bool.not_not, ne_eq, Decidable.not_not, not_true_eq_false, not_false_eq_true, Int.not_le, Int.not_lt] at hc1)
    refine awp_skip ?_
    change Awp _ _ _ _ _
    refine awp_seq ?_
    refine awp_region 4 mixed (by kernel_rfl) ?_
    first | refine rg_q (q_move (x := .d (.sl _ _)) rfl) ?_ | refine rg_q (q_move (x := .rs _) rfl) ?_ | refine rg_q (q_move (x := .d (.v _)) rfl) ?_
    first | refine rg_q (q_indexAddr sl22 rfl rfl (by omega) (map_at (k := 0) (by omega) hz0)) ?_ | refine rg_q (q_indexAddr_rs sl22 rfl rfl rfl (by omega) (by omega)) ?_
    first | refine rg_q (q_load sz3 rfl rfl) ?_ | refine rg_q (q_load_ref sz3 rfl rfl rfl) ?_ | refine rg_q (q_load_tb (x := .d _) sz3 rfl rfl rfl) ?_ | refine rg_q (q_load_tb (x := .rs _) sz3 rfl rfl rfl) ?_
    refine rg_q (q_assign (x := .d (.v _)) rfl) ?_
    refine rg_nil ?_
    refine aops_nil ?_
    change Awp _ _ _ _ _
    refine awp_seq ?_
    refine awp_seq ?_
    refine awp_region 1 mixed (by kernel_rfl) ?_
    refine rg_q (q_assign (x := .d (.v _)) rfl) ?_
    refine rg_nil ?_
    refine aops_nil ?_
    change Awp _ _ _ _ _
    refine awp_block ?_
    refine awp_loopH [3, 4, 12, 13, 14, 15, 16, 17, 18, 19, 20, 21, 22, 23] [] (α := Nat) (fun i => [(4, T.i (i : Int)), (3, T.i (maxF (l.take i)))]) (fun i => []) (fun i => 1 ≤ i ∧ i ≤ l.length) (fun i => l.length - i) 1 ⟨Nat.le_refl _, hl⟩ ?_ ?_
    · exact le_head (ms := []) (by repeat (first | exact Out.refl _ | exact Out.head rfl rfl | (refine Out.put ?_ rfl) | (refine Out.site ?_ rfl) | (refine Out.putn ?_) | (refine Out.headIn ?_ rfl rfl rfl) | (refine Out.called ?_ rfl rfl))) ⟨(by first | rfl | (first | (show T.i _ = T.i _; rw [h1]; done) | (show T.i _ = T.i _; rw [hs]; done))), (by first | rfl | (first | (show T.i _ = T.i _; rw [h1]; done) | (show T.i _ = T.i _; rw [hs]; done))), trivial⟩ trivial rfl rfl rfl rfl
    ·
      intro i ⟨hi, hil⟩
      refine awp_seq ?_
      refine awp_seq ?_
      refine awp_region 4 mixed (by kernel_rfl) ?_
      refine rg_q (q_move (x := .d (.v _)) rfl) ?_
      first | refine rg_q (q_move (x := .d (.sl _ _)) rfl) ?_ | refine rg_q (q_move (x := .rs _) rfl) ?_ | refine rg_q (q_move (x := .d (.v _)) rfl) ?_
      first | refine rg_q (q_len isl22 rfl (by first | exact len_map _ _ | rfl)) ?_ | refine rg_q (q_len_rs isl22 rfl rfl) ?_ | refine rg_q (q_len_nil isl22 rfl) ?_
      refine rg_q (q_lss rfl rfl) ?_
      refine rg_nil ?_
      refine aops_nil ?_
      change Awp _ _ _ _ _
      first | refine awp_len (t := 13) rfl (fun hl13 => ?_) | skip
      (try simp only [List.length_map] at hl13)
      refine awp_cond rfl (fun hc5 => ?_) (fun hc5 => ?_)
      ·
        (try simp only [decide_eq_true_eq, decide_eq_false_iff_not, Bool.and_eq_true, Bool.or_eq_true, Bool.and_eq_false_iff, Bool.or_eq_false_iff, Bool.not_eq_true', Bool.not_eq_false', Bool.not_true, Bool.not_false, bif_and, bif_or, Bool.not_not, ne_eq, Decidable.not_not, not_true_eq_false, not_false_eq_true, Int.not_le, Int.not_lt] at hc5)
        have hlt : i < l.length := by omega
        obtain ⟨x, hx⟩ : ∃ x, l[i]? = some x := ⟨_, List.getElem?_eq_getElem hlt⟩
        have hs := maxF_snoc hi hx
        refine awp_skip ?_
        change Awp _ _ _ _ _
        refine awp_seq ?_
        refine awp_block ?_
        refine awp_region 7 mixed (by kernel_rfl) ?_
        refine rg_q (q_move (x := .d (.v _)) rfl) ?_
        first | refine rg_q (q_move (x := .d (.sl _ _)) rfl) ?_ | refine rg_q (q_move (x := .rs _) rfl) ?_ | refine rg_q (q_move (x := .d (.v _)) rfl) ?_
        refine rg_q (q_move (x := .d (.v _)) rfl) ?_
        first | refine rg_q (q_indexAddr sl22 rfl rfl (by omega) (map_at (by omega) hx)) ?_ | refine rg_q (q_indexAddr_rs sl22 rfl rfl rfl (by omega) (by omega)) ?_
        first | refine rg_q (q_load sz3 rfl rfl) ?_ | refine rg_q (q_load_ref sz3 rfl rfl rfl) ?_ | refine rg_q (q_load_tb (x := .d _) sz3 rfl rfl rfl) ?_ | refine rg_q (q_load_tb (x := .rs _) sz3 rfl rfl rfl) ?_
        refine rg_q (q_max rfl rfl) ?_
        refine rg_q (q_assign (x := .d (.v _)) rfl) ?_
        refine rg_nil ?_
        refine aops_nil ?_
        change Awp _ _ _ _ _
        refine awp_region 3 mixed (by kernel_rfl) ?_
        refine rg_q (q_move (x := .d (.v _)) rfl) ?_
        refine rg_q (q_add rfl rfl (In64.mk (by omega) (by omega))) ?_
        refine rg_q (q_assign (x := .d (.v _)) rfl) ?_
        refine rg_nil ?_
        refine aops_nil ?_
        refine ⟨i + 1, ⟨by omega, by omega⟩, by omega, ?_⟩
        exact le_head (ms := []) (by repeat (first | exact Out.refl _ | exact Out.head rfl rfl | (refine Out.put ?_ rfl) | (refine Out.site ?_ rfl) | (refine Out.putn ?_) | (refine Out.headIn ?_ rfl rfl rfl) | (refine Out.called ?_ rfl rfl))) ⟨(by first | rfl | (first | (show T.i _ = T.i _; rw [h1]; done) | (show T.i _ = T.i _; rw [hs]; done))), (by first | rfl | (first | (show T.i _ = T.i _; rw [h1]; done) | (show T.i _ = T.i _; rw [hs]; done))), trivial⟩ trivial rfl rfl rfl rfl
      ·
        (try simp only [decide_eq_true_eq, decide_eq_false_iff_not, Bool.and_eq_true, Bool.or_eq_true, Bool.and_eq_false_iff, Bool.or_eq_false_iff, Bool.not_eq_true', Bool.not_eq_false', Bool.not_true, Bool.not_false, bif_and, bif_or, Bool.not_not, ne_eq, Decidable.not_not, not_true_eq_false, not_false_eq_true, Int.not_le, Int.not_lt] at hc5)
        have hil : i = l.length := by omega
        refine awp_exit ?_
        change Awp _ _ _ _ _
        refine awp_seq ?_
        refine awp_region 2 mixed (by kernel_rfl) ?_
        refine rg_q (q_move (x := .d (.v _)) rfl) ?_
        refine rg_q (q_assign (x := .d (.v _)) rfl) ?_
        refine rg_nil ?_
        refine aops_nil ?_
        change Awp _ _ _ _ _
        refine awp_ret ?_
        refine ⟨_, (.cons (.tmp (by first | exact .d _ | exact .rs rfl | exact .ref rfl | exact .tref rfl (.cons (.d _ rfl) (.cons (.rs rfl) .nil)))) .nil), ?_⟩
        rw [hz, ← hil]; rfl
set_option maxRecDepth 100000 in
theorem minI_p (l : List Int) (hl : 1 ≤ l.length) : PC Try.prog 32 [.sl 1 (l.map iC)] (.v (.int .i64 (minF l))) := by
  have hz : minF l = minF (l.take l.length) := by rw [List.take_length]
  obtain ⟨z, hz0⟩ : ∃ z, l[0]? = some z := ⟨_, List.getElem?_eq_getElem (by omega)⟩
  have h1 : minF (l.take 1) = z := by
    cases l with
    | nil => simp at hl
    | cons y ys => simp at hz0; subst hz0; rfl
  refine pc_of_awp Try.func32 rfl Try.ntmps32 (rs := [.tmp 2]) Try.results32 (by simp) fun w0 => ?_
  refine awp_seq ?_
  refine awp_region 1 mixed (by kernel_rfl) ?_
  refine rg_q (q_assign (x := .d (.v _)) rfl) ?_
  refine rg_nil ?_
  refine aops_nil ?_
  change Awp _ _ _ _ _
  refine awp_seq ?_
  refine awp_seq ?_
  refine awp_region 3 mixed (by kernel_rfl) ?_
  first | refine rg_q (q_move (x := .d (.sl _ _)) rfl) ?_ | refine rg_q (q_move (x := .rs _) rfl) ?_ | refine rg_q (q_move (x := .d (.v _)) rfl) ?_
  first | refine rg_q (q_len isl22 rfl (by first | exact len_map _ _ | rfl)) ?_ | refine rg_q (q_len_rs isl22 rfl rfl) ?_ | refine rg_q (q_len_nil isl22 rfl) ?_
  refine rg_q (q_lss rfl rfl) ?_
  refine rg_nil ?_
  refine aops_nil ?_
  change Awp _ _ _ _ _
  first | refine awp_len (t := 5) rfl (fun hl5 => ?_) | skip
  (try simp only [List.length_map] at hl5)
  refine awp_cond rfl (fun hc1 => ?_) (fun hc1 => ?_)
  ·
    exfalso; (try simp only [decide_eq_true_eq, decide_eq_false_iff_not, Bool.and_eq_true, Bool.or_eq_true, Bool.and_eq_false_iff, Bool.or_eq_false_iff, Bool.not_eq_true', Bool.not_eq_false', Bool.not_true, Bool.not_false, bif_and, bif_or, Bool.not_not, ne_eq, Decidable.not_not, not_true_eq_false, not_false_eq_true, Int.not_le, Int.not_lt] at hc1); first | omega | simp_all
  ·
    (try simp only [decide_eq_true_eq, decide_eq_false_iff_not, Bool.and_eq_true, Bool.or_eq_true, Bool.and_eq_false_iff, Bool.or_eq_false_iff, Bool.not_eq_true', Bool.not_eq_false', Bool.not_true, Bool.not_false, bif_and, bif_or, Bool.not_not, ne_eq, Decidable.not_not, not_true_eq_false, not_false_eq_true, Int.not_le, Int.not_lt] at hc1)
    refine awp_skip ?_
    change Awp _ _ _ _ _
    refine awp_seq ?_
    refine awp_region 4 mixed (by kernel_rfl) ?_
    first | refine rg_q (q_move (x := .d (.sl _ _)) rfl) ?_ | refine rg_q (q_move (x := .rs _) rfl) ?_ | refine rg_q (q_move (x := .d (.v _)) rfl) ?_
    first | refine rg_q (q_indexAddr sl22 rfl rfl (by omega) (map_at (k := 0) (by omega) hz0)) ?_ | refine rg_q (q_indexAddr_rs sl22 rfl rfl rfl (by omega) (by omega)) ?_
    first | refine rg_q (q_load sz3 rfl rfl) ?_ | refine rg_q (q_load_ref sz3 rfl rfl rfl) ?_ | refine rg_q (q_load_tb (x := .d _) sz3 rfl rfl rfl) ?_ | refine rg_q (q_load_tb (x := .rs _) sz3 rfl rfl rfl) ?_
    refine rg_q (q_assign (x := .d (.v _)) rfl) ?_
    refine rg_nil ?_
    refine aops_nil ?_
    change Awp _ _ _ _ _
    refine awp_seq ?_
    refine awp_seq ?_
    refine awp_region 1 mixed (by kernel_rfl) ?_
    refine rg_q (q_assign (x := .d (.v _)) rfl) ?_
    refine rg_nil ?_
    refine aops_nil ?_
    change Awp _ _ _ _ _
    refine awp_block ?_
    refine awp_loopH [3, 4, 12, 13, 14, 15, 16, 17, 18, 19, 20, 21, 22, 23] [] (α := Nat) (fun i => [(4, T.i (i : Int)), (3, T.i (minF (l.take i)))]) (fun i => []) (fun i => 1 ≤ i ∧ i ≤ l.length) (fun i => l.length - i) 1 ⟨Nat.le_refl _, hl⟩ ?_ ?_
    · exact le_head (ms := []) (by repeat (first | exact Out.refl _ | exact Out.head rfl rfl | (refine Out.put ?_ rfl) | (refine Out.site ?_ rfl) | (refine Out.putn ?_) | (refine Out.headIn ?_ rfl rfl rfl) | (refine Out.called ?_ rfl rfl))) ⟨(by first | rfl | (first | (show T.i _ = T.i _; rw [h1]; done) | (show T.i _ = T.i _; rw [hs]; done))), (by first | rfl | (first | (show T.i _ = T.i _; rw [h1]; done) | (show T.i _ = T.i _; rw [hs]; done))), trivial⟩ trivial rfl rfl rfl rfl
    ·
      intro i ⟨hi, hil⟩
      refine awp_seq ?_
      refine awp_seq ?_
      refine awp_region 4 mixed (by kernel_rfl) ?_
      refine rg_q (q_move (x := .d (.v _)) rfl) ?_
      first | refine rg_q (q_move (x := .d (.sl _ _)) rfl) ?_ | refine rg_q (q_move (x := .rs _) rfl) ?_ | refine rg_q (q_move (x := .d (.v _)) rfl) ?_
      first | refine rg_q (q_len isl22 rfl (by first | exact len_map _ _ | rfl)) ?_ | refine rg_q (q_len_rs isl22 rfl rfl) ?_ | refine rg_q (q_len_nil isl22 rfl) ?_
      refine rg_q (q_lss rfl rfl) ?_
      refine rg_nil ?_
      refine aops_nil ?_
      change Awp _ _ _ _ _
      first | refine awp_len (t := 13) rfl (fun hl13 => ?_) | skip
      (try simp only [List.length_map] at hl13)
      refine awp_cond rfl (fun hc5 => ?_) (fun hc5 => ?_)
      ·
        (try simp only [decide_eq_true_eq, decide_eq_false_iff_not, Bool.and_eq_true, Bool.or_eq_true, Bool.and_eq_false_iff, Bool.or_eq_false_iff, Bool.not_eq_true', Bool.not_eq_false', Bool.not_true, Bool.not_false, bif_and, bif_or, Bool.not_not, ne_eq, Decidable.not_not, not_true_eq_false, not_false_eq_true, Int.not_le, Int.not_lt] at hc5)
        have hlt : i < l.length := by omega
        obtain ⟨x, hx⟩ : ∃ x, l[i]? = some x := ⟨_, List.getElem?_eq_getElem hlt⟩
        have hs := minF_snoc hi hx
        refine awp_skip ?_
        change Awp _ _ _ _ _
        refine awp_seq ?_
        refine awp_block ?_
        refine awp_region 7 mixed (by kernel_rfl) ?_
        refine rg_q (q_move (x := .d (.v _)) rfl) ?_
        first | refine rg_q (q_move (x := .d (.sl _ _)) rfl) ?_ | refine rg_q (q_move (x := .rs _) rfl) ?_ | refine rg_q (q_move (x := .d (.v _)) rfl) ?_
        refine rg_q (q_move (x := .d (.v _)) rfl) ?_
        first | refine rg_q (q_indexAddr sl22 rfl rfl (by omega) (map_at (by omega) hx)) ?_ | refine rg_q (q_indexAddr_rs sl22 rfl rfl rfl (by omega) (by omega)) ?_
        first | refine rg_q (q_load sz3 rfl rfl) ?_ | refine rg_q (q_load_ref sz3 rfl rfl rfl) ?_ | refine rg_q (q_load_tb (x := .d _) sz3 rfl rfl rfl) ?_ | refine rg_q (q_load_tb (x := .rs _) sz3 rfl rfl rfl) ?_
        refine rg_q (q_min rfl rfl) ?_
        refine rg_q (q_assign (x := .d (.v _)) rfl) ?_
        refine rg_nil ?_
        refine aops_nil ?_
        change Awp _ _ _ _ _
        refine awp_region 3 mixed (by kernel_rfl) ?_
        refine rg_q (q_move (x := .d (.v _)) rfl) ?_
        refine rg_q (q_add rfl rfl (In64.mk (by omega) (by omega))) ?_
        refine rg_q (q_assign (x := .d (.v _)) rfl) ?_
        refine rg_nil ?_
        refine aops_nil ?_
        refine ⟨i + 1, ⟨by omega, by omega⟩, by omega, ?_⟩
        exact le_head (ms := []) (by repeat (first | exact Out.refl _ | exact Out.head rfl rfl | (refine Out.put ?_ rfl) | (refine Out.site ?_ rfl) | (refine Out.putn ?_) | (refine Out.headIn ?_ rfl rfl rfl) | (refine Out.called ?_ rfl rfl))) ⟨(by first | rfl | (first | (show T.i _ = T.i _; rw [h1]; done) | (show T.i _ = T.i _; rw [hs]; done))), (by first | rfl | (first | (show T.i _ = T.i _; rw [h1]; done) | (show T.i _ = T.i _; rw [hs]; done))), trivial⟩ trivial rfl rfl rfl rfl
      ·
        (try simp only [decide_eq_true_eq, decide_eq_false_iff_not, Bool.and_eq_true, Bool.or_eq_true, Bool.and_eq_false_iff, Bool.or_eq_false_iff, Bool.not_eq_true', Bool.not_eq_false', Bool.not_true, Bool.not_false, bif_and, bif_or, Bool.not_not, ne_eq, Decidable.not_not, not_true_eq_false, not_false_eq_true, Int.not_le, Int.not_lt] at hc5)
        have hil : i = l.length := by omega
        refine awp_exit ?_
        change Awp _ _ _ _ _
        refine awp_seq ?_
        refine awp_region 2 mixed (by kernel_rfl) ?_
        refine rg_q (q_move (x := .d (.v _)) rfl) ?_
        refine rg_q (q_assign (x := .d (.v _)) rfl) ?_
        refine rg_nil ?_
        refine aops_nil ?_
        change Awp _ _ _ _ _
        refine awp_ret ?_
        refine ⟨_, (.cons (.tmp (by first | exact .d _ | exact .rs rfl | exact .ref rfl | exact .tref rfl (.cons (.d _ rfl) (.cons (.rs rfl) .nil)))) .nil), ?_⟩
        rw [hz, ← hil]; rfl

def lowP (p : Arc × Arc) : Int := (p.2.r * p.1.lo - p.1.r * p.2.hi) / (p.2.r - p.1.r)
def highP (p : Arc × Arc) : Int := ceD (p.2.r * p.1.hi - p.1.r * p.2.lo) (p.2.r - p.1.r)
def delayR (l : List Arc) : (Int × Int) × Int :=
  if (ckA l).2 ≠ 0 then ((0, 0), (ckA l).2) else if lessB (slowOf l).mo (slowOf l).le = true then ((0, 0), 12)
  else ((maxF ((pairsTo l l.length).map lowP), minF ((pairsTo l l.length).map highP)), 0)
set_option maxRecDepth 100000 in
theorem DelayRange_p (l : List Arc) : PC Try.prog 9 [.sl 3 (l.map arcC)] (.tup [.agg (qC (delayR l).1), .v (.int .i64 ((delayR l).2))]) := by
  refine pc_of_awpN Try.func9 rfl Try.ntmps9 (rs := [.cell 2 27, .tmp 3]) Try.results9 (by simp) fun w0 hmine hrnd hpn => ?_
  refine awp_seq ?_
  refine awp_region 0 mixed (by kernel_rfl) ?_
  refine rg_nil ?_
  refine aops_alloc zr27 rfl rfl rfl ?_
  refine aops_q rfl (q_assign (x := .d (.v _)) rfl) ?_
  refine aops_nil ?_
  change Awp _ _ _ _ _
  refine awp_seq ?_
  refine awp_region 7 mixed (by kernel_rfl) ?_
  first | refine rg_q (q_move (x := .d (.sl _ _)) rfl) ?_ | refine rg_q (q_move (x := .rs _) rfl) ?_ | refine rg_q (q_move (x := .d (.v _)) rfl) ?_
  first | refine rg_q (q_call en21 (.cons rfl .nil) rfl (openA_p _)) ?_ | refine rg_q (q_callF en21 (.cons (by first | exact .d _ | exact .rs rfl | exact .ref rfl | exact .nil _ | exact .tref rfl (by repeat (first | exact .nil | refine .cons (.d _ rfl) ?_ | refine .cons (.rs rfl) ?_))) .nil) rfl (openA_p _) (by first | exact .v _ | exact D.Flat.tupF (by repeat first | exact trivial | refine ⟨.v _, ?_⟩) | exact D.Flat.aggF (by repeat first | exact trivial | refine ⟨.v _, ?_⟩))) ?_
  refine rg_q (q_move (x := .d (.tup _)) rfl) ?_
  refine rg_q (q_extract rfl rfl) ?_
  refine rg_q (q_extract rfl rfl) ?_
  first | refine rg_q (q_assign (x := .d (.sl _ _)) rfl) ?_ | refine rg_q (q_assign (x := .rs _) rfl) ?_ | refine rg_q (q_assign (x := .d (.v _)) rfl) ?_
  refine rg_q (q_assign (x := .d (.v _)) rfl) ?_
  refine rg_nil ?_
  refine aops_nil ?_
  change Awp _ _ _ _ _
  refine awp_seq ?_
  refine awp_seq ?_
  refine awp_region 2 mixed (by kernel_rfl) ?_
  refine rg_q (q_move (x := .d (.v _)) rfl) ?_
  refine rg_q (q_neq rfl rfl) ?_
  refine rg_nil ?_
  refine aops_nil ?_
  change Awp _ _ _ _ _
  refine awp_cond rfl (fun hc2 => ?_) (fun hc2 => ?_)
  ·
    (try simp only [decide_eq_true_eq, decide_eq_false_iff_not, Bool.and_eq_true, Bool.or_eq_true, Bool.and_eq_false_iff, Bool.or_eq_false_iff, Bool.not_eq_true', Bool.not_eq_false', Bool.not_true, Bool.not_false, bif_and, bif_or, Bool.not_not, ne_eq, Decidable.not_not, not_true_eq_false, not_false_eq_true, Int.not_le, Int.not_lt] at hc2)
    have hz : delayR l = ((0, 0), (ckA l).2) := by unfold delayR; rw [if_pos hc2]
    refine awp_seq ?_
    refine awp_region 2 mixed (by kernel_rfl) ?_
    refine rg_q (q_build (cs := [_, _]) pl27 zr27 rfl .nil trivial rfl) ?_
    refine rg_q (q_move (x := .d (.v _)) rfl) ?_
    refine rg_nil ?_
    first | refine aops_store sz27 rfl rfl (by first | exact .inl rfl | exact .inr ⟨_, rfl⟩) rfl rfl (by first | decide | simp; done | exact Nat.le_of_ble_eq_true rfl) rfl ?_ | refine aops_storeT (z := .rs _) sz27 rfl rfl rfl rfl (by first | decide | simp) rfl ?_ | refine aops_storeT (z := .d _) sz27 rfl rfl rfl rfl (by first | decide | simp) rfl ?_ | refine aops_storeTA sz27 rfl rfl (by first | exact .inl rfl | exact .inr ⟨_, rfl⟩) rfl rfl (by first | decide | simp) rfl ?_
    refine aops_q rfl (q_assign (x := .d (.v _)) rfl) ?_
    refine aops_nil ?_
    change Awp _ _ _ _ _
    refine awp_ret ?_
    refine ⟨_, (.cons (.cellA rfl rfl sz27 rfl) (.cons (.tmp (by first | exact .d _ | exact .rs rfl | exact .ref rfl | exact .tref rfl (.cons (.d _ rfl) (.cons (.rs rfl) .nil)))) .nil)), ?_⟩
    rw [hz]; rfl
  ·
    (try simp only [decide_eq_true_eq, decide_eq_false_iff_not, Bool.and_eq_true, Bool.or_eq_true, Bool.and_eq_false_iff, Bool.or_eq_false_iff, Bool.not_eq_true', Bool.not_eq_false', Bool.not_true, Bool.not_false, bif_and, bif_or, Bool.not_not, ne_eq, Decidable.not_not, not_true_eq_false, not_false_eq_true, Int.not_le, Int.not_lt] at hc2)
    have hz0 : (ckA l).2 = 0 := by simpa using hc2
    have hok := (ckA_ok hz0).1
    have hpo := pairsTo_ok (fun x hx => (hok.ok x hx).1) l.length (Nat.le_refl _)
    have hpa := pairsTo_asc hok.asc l.length (Nat.le_refl _)
    have hlen : 1 ≤ (pairsTo l l.length).length := by
      have h2 := pairsTo_prefix l hok.two
      have h3 := h2.length_le
      have h4 := pairsTo_succ l 1 hok.two
      rw [h4] at h3
      have := hok.two
      simp only [List.length_append, List.length_map, List.length_take] at h3
      omega
    have hlen2 : (pairsTo l l.length).length ≤ 1000 := by
      have h0 : ∀ k, k ≤ l.length → (pairsTo l k).length ≤ 13 * k := fun k hk => by
        induction k with
        | zero => simp [pairsTo]
        | succ k ih => rw [pairsTo_succ l k hk, List.length_append, List.length_map, List.length_take]; have := ih (by omega); have := hok.few; omega
      have := h0 _ (Nat.le_refl _); have := hok.few; omega
    refine awp_skip ?_
    change Awp _ _ _ _ _
    refine awp_seq ?_
    refine awp_seq ?_
    refine awp_region 6 mixed (by kernel_rfl) ?_
    first | refine rg_q (q_move (x := .d (.sl _ _)) rfl) ?_ | refine rg_q (q_move (x := .rs _) rfl) ?_ | refine rg_q (q_move (x := .d (.v _)) rfl) ?_
    first | refine rg_q (q_call en27 (.cons rfl .nil) rfl (slowness_p _ hok)) ?_ | refine rg_q (q_callF en27 (.cons (by first | exact .d _ | exact .rs rfl | exact .ref rfl | exact .nil _ | exact .tref rfl (by repeat (first | exact .nil | refine .cons (.d _ rfl) ?_ | refine .cons (.rs rfl) ?_))) .nil) rfl (slowness_p _ hok) (by first | exact .v _ | exact D.Flat.tupF (by repeat first | exact trivial | refine ⟨.v _, ?_⟩) | exact D.Flat.aggF (by repeat first | exact trivial | refine ⟨.v _, ?_⟩))) ?_
    refine rg_q (q_move (x := .d (.tup _)) rfl) ?_
    refine rg_q (q_extract rfl rfl) ?_
    refine rg_q (q_extract rfl rfl) ?_
    refine rg_q (q_extract rfl rfl) ?_
    refine rg_nil ?_
    refine aops_alloc zr65 rfl rfl rfl ?_
    refine aops_alloc zr65 rfl rfl rfl ?_
    first | refine aops_store sz65 rfl rfl (by first | exact .inl rfl | exact .inr ⟨_, rfl⟩) rfl rfl (by first | decide | simp; done | exact Nat.le_of_ble_eq_true rfl) rfl ?_ | refine aops_storeT (z := .rs _) sz65 rfl rfl rfl rfl (by first | decide | simp) rfl ?_ | refine aops_storeT (z := .d _) sz65 rfl rfl rfl rfl (by first | decide | simp) rfl ?_ | refine aops_storeTA sz65 rfl rfl (by first | exact .inl rfl | exact .inr ⟨_, rfl⟩) rfl rfl (by first | decide | simp) rfl ?_
    first | refine aops_store sz65 rfl rfl (by first | exact .inl rfl | exact .inr ⟨_, rfl⟩) rfl rfl (by first | decide | simp; done | exact Nat.le_of_ble_eq_true rfl) rfl ?_ | refine aops_storeT (z := .rs _) sz65 rfl rfl rfl rfl (by first | decide | simp) rfl ?_ | refine aops_storeT (z := .d _) sz65 rfl rfl rfl rfl (by first | decide | simp) rfl ?_ | refine aops_storeTA sz65 rfl rfl (by first | exact .inl rfl | exact .inr ⟨_, rfl⟩) rfl rfl (by first | decide | simp) rfl ?_
    refine aops_q rfl (q_assign (x := .d (.v _)) rfl) ?_
    refine aops_nil ?_
    change Awp _ _ _ _ _
    refine awp_seq ?_
    refine awp_region 2 mixed (by kernel_rfl) ?_
    refine rg_q (q_move (x := .d (.v _)) rfl) ?_
    refine rg_q (q_not rfl) ?_
    refine rg_nil ?_
    refine aops_nil ?_
    change Awp _ _ _ _ _
    refine awp_cond rfl (fun hc5 => ?_) (fun hc5 => ?_)
    ·
      (try simp only [decide_eq_true_eq, decide_eq_false_iff_not, Bool.and_eq_true, Bool.or_eq_true, Bool.and_eq_false_iff, Bool.or_eq_false_iff, Bool.not_eq_true', Bool.not_eq_false', Bool.not_true, Bool.not_false, bif_and, bif_or, Bool.not_not, ne_eq, Decidable.not_not, not_true_eq_false, not_false_eq_true, Int.not_le, Int.not_lt] at hc5)
      have hz : delayR l = ((0, 0), 12) := by unfold delayR; rw [if_neg (by rw [hz0]; simp), if_pos (by simpa using hc5)]
      refine awp_seq ?_
      refine awp_region 1 mixed (by kernel_rfl) ?_
      refine rg_q (q_build (cs := [_, _]) pl27 zr27 rfl .nil trivial rfl) ?_
      refine rg_nil ?_
      first | refine aops_store sz27 rfl rfl (by first | exact .inl rfl | exact .inr ⟨_, rfl⟩) rfl rfl (by first | decide | simp; done | exact Nat.le_of_ble_eq_true rfl) rfl ?_ | refine aops_storeT (z := .rs _) sz27 rfl rfl rfl rfl (by first | decide | simp) rfl ?_ | refine aops_storeT (z := .d _) sz27 rfl rfl rfl rfl (by first | decide | simp) rfl ?_ | refine aops_storeTA sz27 rfl rfl (by first | exact .inl rfl | exact .inr ⟨_, rfl⟩) rfl rfl (by first | decide | simp) rfl ?_
      refine aops_q rfl (q_assign (x := .d (.v _)) rfl) ?_
      refine aops_nil ?_
      change Awp _ _ _ _ _
      refine awp_ret ?_
      refine ⟨_, (.cons (.cellA rfl rfl sz27 rfl) (.cons (.tmp (by first | exact .d _ | exact .rs rfl | exact .ref rfl | exact .tref rfl (.cons (.d _ rfl) (.cons (.rs rfl) .nil)))) .nil)), ?_⟩
      rw [hz]; rfl
    ·
      (try simp only [decide_eq_true_eq, decide_eq_false_iff_not, Bool.and_eq_true, Bool.or_eq_true, Bool.and_eq_false_iff, Bool.or_eq_false_iff, Bool.not_eq_true', Bool.not_eq_false', Bool.not_true, Bool.not_false, bif_and, bif_or, Bool.not_not, ne_eq, Decidable.not_not, not_true_eq_false, not_false_eq_true, Int.not_le, Int.not_lt] at hc5)
      have hz : delayR l = ((maxF ((pairsTo l l.length).map lowP), minF ((pairsTo l l.length).map highP)), 0) := by unfold delayR; rw [if_neg (by rw [hz0]; simp), if_neg (by simpa using hc5)]
      refine awp_skip ?_
      change Awp _ _ _ _ _
      refine awp_seq ?_
      refine awp_region 0 mixed (by kernel_rfl) ?_
      refine rg_nil ?_
      refine aops_alloc zr22 rfl rfl rfl ?_
      refine aops_alloc zr22 rfl rfl rfl ?_
      refine aops_nil ?_
      change Awp _ _ _ _ _
      refine awp_seq ?_
      refine awp_seq ?_
      refine awp_region 2 mixed (by kernel_rfl) ?_
      first | refine rg_q (q_move (x := .d (.sl _ _)) rfl) ?_ | refine rg_q (q_move (x := .rs _) rfl) ?_ | refine rg_q (q_move (x := .d (.v _)) rfl) ?_
      refine rg_q (q_makeMfn (.cons rfl .nil)) ?_
      refine rg_nil ?_
      refine aops_nil ?_
      change Awp _ _ _ _ _
      refine awp_block ?_
      refine Awp.le (le_ownB 9 58 0 3 1 rfl rfl rfl) ?_
      refine Awp.le (le_ownB 10 76 0 3 1 rfl rfl rfl) ?_
      refine awp_rangeC (α := Arc × Arc) (β := Nat) (n := 82) (enc := fun p : Arc × Arc => [.agg (arcC p.1), .agg (arcC p.2)]) (items := pairsTo l l.length) 1000 [(2, .ref 2 0), (9, .ref 9 0), (10, .ref 10 0), (33, .d (.mfn (.func 28) [.sl 3 (l.map arcC)]))] (fun x => [(2, .box [.v (.int .i64 0), .v (.int .i64 0)]), (9, .tbox [.rs 58]), (10, .tbox [.rs 76]), (58, .row 3 1 ((((pairsTo l l.length).take x).map lowP).map iC)), (76, .row 3 1 ((((pairsTo l l.length).take x).map highP).map iC))]) (fun k x => x = k ∧ k ≤ (pairsTo l l.length).length) (fun e x => False) 0 hrnd ?_ (.inl ⟨rfl, rfl⟩) en28 (pairs_i l) rfl (fun _ => rfl) rfl (fun _ => by repeat first | exact trivial | refine ⟨by first | exact .v _ | exact D.Flat.aggF (by repeat first | exact trivial | refine ⟨.v _, ?_⟩), ?_⟩) (fun _ => rfl) ⟨rfl, Nat.zero_le _⟩ (fun h => by cases h) ?_ ?_ ?_
      · exact le_cst (fun k => k) _ _ rfl ⟨rfl, rfl, rfl, rfl, trivial⟩ ⟨rfl, rfl, rfl, rfl, rfl, trivial⟩ rfl (fun k b h => by rw [hpn k] at h; cases h)
      ·
        intro w1 hw1 k x y hI hy
        obtain ⟨rfl, hk⟩ := hI
        obtain ⟨⟨a1, a2, a3, a4, a5, a6⟩, b1, b2, b3, b4, b5, b6⟩ := hpo y (List.mem_of_getElem? hy)
        have hr := hpa y (List.mem_of_getElem? hy)
        have m1 := mulb (a := y.2.r) (b := y.1.lo) (A := 100000) (B := 1000000000000) (by omega) (by omega) (by omega) (by omega)
        have m2 := mulb (a := y.1.r) (b := y.2.hi) (A := 100000) (B := 1000000000000) (by omega) (by omega) (by omega) (by omega)
        have m3 := mulb (a := y.2.r) (b := y.1.hi) (A := 100000) (B := 1000000000000) (by omega) (by omega) (by omega) (by omega)
        have m4 := mulb (a := y.1.r) (b := y.2.lo) (A := 100000) (B := 1000000000000) (by omega) (by omega) (by omega) (by omega)
        have hxl : x < (pairsTo l l.length).length := (List.getElem?_eq_some_iff.1 hy).1
        have hs1 : ((((pairsTo l l.length).take x).map lowP).map iC) ++ [iC (lowP y)] = (((pairsTo l l.length).take (x + 1)).map lowP).map iC := by
          rw [List.take_succ_eq_append_getElem hxl, (List.getElem?_eq_some_iff.1 hy).2]; simp
        have hs2 : ((((pairsTo l l.length).take x).map highP).map iC) ++ [iC (highP y)] = (((pairsTo l l.length).take (x + 1)).map highP).map iC := by
          rw [List.take_succ_eq_append_getElem hxl, (List.getElem?_eq_some_iff.1 hy).2]; simp
        have htl : ((pairsTo l l.length).take x).length ≤ 1000 := by rw [List.length_take]; omega
        refine awp_seq ?_
        refine awp_region 0 mixed (by kernel_rfl) ?_
        refine rg_nil ?_
        refine aops_alloc zr34 rfl rfl rfl ?_
        first | refine aops_store sz34 rfl rfl (by first | exact .inl rfl | exact .inr ⟨_, rfl⟩) rfl rfl (by first | decide | simp; done | exact Nat.le_of_ble_eq_true rfl) rfl ?_ | refine aops_storeT (z := .rs _) sz34 rfl rfl rfl rfl (by first | decide | simp) rfl ?_ | refine aops_storeT (z := .d _) sz34 rfl rfl rfl rfl (by first | decide | simp) rfl ?_ | refine aops_storeTA sz34 rfl rfl (by first | exact .inl rfl | exact .inr ⟨_, rfl⟩) rfl rfl (by first | decide | simp) rfl ?_
        refine aops_nil ?_
        change Awp _ _ _ _ _
        refine awp_region 0 mixed (by kernel_rfl) ?_
        refine rg_nil ?_
        refine aops_alloc zr34 rfl rfl rfl ?_
        first | refine aops_store sz34 rfl rfl (by first | exact .inl rfl | exact .inr ⟨_, rfl⟩) rfl rfl (by first | decide | simp; done | exact Nat.le_of_ble_eq_true rfl) rfl ?_ | refine aops_storeT (z := .rs _) sz34 rfl rfl rfl rfl (by first | decide | simp) rfl ?_ | refine aops_storeT (z := .d _) sz34 rfl rfl rfl rfl (by first | decide | simp) rfl ?_ | refine aops_storeTA sz34 rfl rfl (by first | exact .inl rfl | exact .inr ⟨_, rfl⟩) rfl rfl (by first | decide | simp) rfl ?_
        refine aops_nil ?_
        refine ⟨rfl, fun w2 hw2 => ?_⟩
        refine awp_block ?_
        refine awp_seq ?_
        refine awp_region 6 mixed (by kernel_rfl) ?_
        first | refine rg_q (q_fieldAddr fld34_0 rfl) ?_ | refine rg_q (q_fieldAddr_ref fld34_0 rfl) ?_
        first | refine rg_q (q_load sz3 rfl rfl) ?_ | refine rg_q (q_load_ref sz3 rfl rfl rfl) ?_ | refine rg_q (q_load_tb (x := .d _) sz3 rfl rfl rfl) ?_ | refine rg_q (q_load_tb (x := .rs _) sz3 rfl rfl rfl) ?_
        first | refine rg_q (q_fieldAddr fld34_0 rfl) ?_ | refine rg_q (q_fieldAddr_ref fld34_0 rfl) ?_
        first | refine rg_q (q_load sz3 rfl rfl) ?_ | refine rg_q (q_load_ref sz3 rfl rfl rfl) ?_ | refine rg_q (q_load_tb (x := .d _) sz3 rfl rfl rfl) ?_ | refine rg_q (q_load_tb (x := .rs _) sz3 rfl rfl rfl) ?_
        refine rg_q (q_sub rfl rfl (In64.mk (by omega) (by omega))) ?_
        refine rg_q (q_assign (x := .d (.v _)) rfl) ?_
        refine rg_nil ?_
        refine aops_nil ?_
        change Awp _ _ _ _ _
        refine awp_seq ?_
        refine awp_regionC 19 [0, 17, 18] [1058, 1009] mixed (by kernel_rfl) ?_
        first | refine rgc_c rfl rfl (c_q (q_load sz22 rfl rfl)) ?_ | refine rgc_c rfl rfl (c_q (q_load_ref sz22 rfl rfl rfl)) ?_ | refine rgc_c rfl rfl (c_q (q_load_tb (x := .d _) sz22 rfl rfl rfl)) ?_ | refine rgc_c rfl rfl (c_q (q_load_tb (x := .rs _) sz22 rfl rfl rfl)) ?_
        first | refine rgc_q rfl (q_fieldAddr fld34_0 rfl) rfl ?_ | refine rgc_q rfl (q_fieldAddr_ref fld34_0 rfl) rfl ?_
        first | refine rgc_q rfl (q_load sz3 rfl rfl) rfl ?_ | refine rgc_q rfl (q_load_ref sz3 rfl rfl rfl) rfl ?_ | refine rgc_q rfl (q_load_tb (x := .d _) sz3 rfl rfl rfl) rfl ?_ | refine rgc_q rfl (q_load_tb (x := .rs _) sz3 rfl rfl rfl) rfl ?_
        first | refine rgc_q rfl (q_fieldAddr fld34_1 rfl) rfl ?_ | refine rgc_q rfl (q_fieldAddr_ref fld34_1 rfl) rfl ?_
        first | refine rgc_q rfl (q_fieldAddr fld27_0 rfl) rfl ?_ | refine rgc_q rfl (q_fieldAddr_ref fld27_0 rfl) rfl ?_
        first | refine rgc_q rfl (q_load sz3 rfl rfl) rfl ?_ | refine rgc_q rfl (q_load_ref sz3 rfl rfl rfl) rfl ?_ | refine rgc_q rfl (q_load_tb (x := .d _) sz3 rfl rfl rfl) rfl ?_ | refine rgc_q rfl (q_load_tb (x := .rs _) sz3 rfl rfl rfl) rfl ?_
        refine rgc_q rfl (q_mul rfl rfl (In64.mk (by omega) (by omega))) rfl ?_
        first | refine rgc_q rfl (q_fieldAddr fld34_0 rfl) rfl ?_ | refine rgc_q rfl (q_fieldAddr_ref fld34_0 rfl) rfl ?_
        first | refine rgc_q rfl (q_load sz3 rfl rfl) rfl ?_ | refine rgc_q rfl (q_load_ref sz3 rfl rfl rfl) rfl ?_ | refine rgc_q rfl (q_load_tb (x := .d _) sz3 rfl rfl rfl) rfl ?_ | refine rgc_q rfl (q_load_tb (x := .rs _) sz3 rfl rfl rfl) rfl ?_
        first | refine rgc_q rfl (q_fieldAddr fld34_1 rfl) rfl ?_ | refine rgc_q rfl (q_fieldAddr_ref fld34_1 rfl) rfl ?_
        first | refine rgc_q rfl (q_fieldAddr fld27_1 rfl) rfl ?_ | refine rgc_q rfl (q_fieldAddr_ref fld27_1 rfl) rfl ?_
        first | refine rgc_q rfl (q_load sz3 rfl rfl) rfl ?_ | refine rgc_q rfl (q_load_ref sz3 rfl rfl rfl) rfl ?_ | refine rgc_q rfl (q_load_tb (x := .d _) sz3 rfl rfl rfl) rfl ?_ | refine rgc_q rfl (q_load_tb (x := .rs _) sz3 rfl rfl rfl) rfl ?_
        refine rgc_q rfl (q_mul rfl rfl (In64.mk (by omega) (by omega))) rfl ?_
        refine rgc_q rfl (q_sub rfl rfl (In64.mk (by omega) (by omega))) rfl ?_
        refine rgc_q rfl (q_move (x := .d (.v _)) rfl) rfl ?_
        first | refine rgc_q rfl (q_call en29 (.cons rfl (.cons rfl .nil)) rfl (floor_p _ _ ⟨by omega, by omega⟩ (by omega))) rfl ?_ | refine rgc_q rfl (q_callF en29 (.cons (by first | exact .d _ | exact .rs rfl | exact .ref rfl | exact .nil _ | exact .tref rfl (by repeat (first | exact .nil | refine .cons (.d _ rfl) ?_ | refine .cons (.rs rfl) ?_))) (.cons (by first | exact .d _ | exact .rs rfl | exact .ref rfl | exact .nil _ | exact .tref rfl (by repeat (first | exact .nil | refine .cons (.d _ rfl) ?_ | refine .cons (.rs rfl) ?_))) .nil)) rfl (floor_p _ _ ⟨by omega, by omega⟩ (by omega)) (by first | exact .v _ | exact D.Flat.tupF (by repeat first | exact trivial | refine ⟨.v _, ?_⟩) | exact D.Flat.aggF (by repeat first | exact trivial | refine ⟨.v _, ?_⟩))) rfl ?_
        refine rgc_q rfl (q_buildSlice sl22 zr3 rfl rfl (by decide) (.cons rfl (by first | exact .inl rfl | exact .inr ⟨_, rfl⟩) .nil) ⟨rfl, rfl, trivial⟩ rfl (by decide) rfl) rfl ?_
        refine rgc_c rfl rfl (c_append (es' := (((pairsTo l l.length).take (x + 1)).map lowP).map iC) sl22 zr3 by3 rfl (by decide) rfl rfl rfl rfl (by (try simp only [List.length_map, List.length_append, List.length_cons, List.length_nil]); omega) (by (try simp only [List.length_map, List.length_append, List.length_cons, List.length_nil]); omega) hs1) ?_
        first | refine rgc_c rfl rfl ((c_store sz22 rfl rfl (by first | exact .inl rfl | exact .inr ⟨_, rfl⟩) rfl rfl (by first | decide | simp) rfl)) ?_ | refine rgc_c rfl rfl ((c_storeR sz22 rfl rfl rfl (by first | decide | simp) rfl)) ?_ | refine rgc_c rfl rfl ((c_storeD sz22 rfl rfl (by first | exact .inl rfl | exact .inr ⟨_, rfl⟩) rfl rfl (by first | decide | simp) rfl)) ?_
        refine rgc_nil ?_
        refine aops_nil ?_
        change Awp _ _ _ _ _
        refine awp_regionC 19 [0, 17, 18] [1076, 1010] mixed (by kernel_rfl) ?_
        first | refine rgc_c rfl rfl (c_q (q_load sz22 rfl rfl)) ?_ | refine rgc_c rfl rfl (c_q (q_load_ref sz22 rfl rfl rfl)) ?_ | refine rgc_c rfl rfl (c_q (q_load_tb (x := .d _) sz22 rfl rfl rfl)) ?_ | refine rgc_c rfl rfl (c_q (q_load_tb (x := .rs _) sz22 rfl rfl rfl)) ?_
        first | refine rgc_q rfl (q_fieldAddr fld34_0 rfl) rfl ?_ | refine rgc_q rfl (q_fieldAddr_ref fld34_0 rfl) rfl ?_
        first | refine rgc_q rfl (q_load sz3 rfl rfl) rfl ?_ | refine rgc_q rfl (q_load_ref sz3 rfl rfl rfl) rfl ?_ | refine rgc_q rfl (q_load_tb (x := .d _) sz3 rfl rfl rfl) rfl ?_ | refine rgc_q rfl (q_load_tb (x := .rs _) sz3 rfl rfl rfl) rfl ?_
        first | refine rgc_q rfl (q_fieldAddr fld34_1 rfl) rfl ?_ | refine rgc_q rfl (q_fieldAddr_ref fld34_1 rfl) rfl ?_
        first | refine rgc_q rfl (q_fieldAddr fld27_1 rfl) rfl ?_ | refine rgc_q rfl (q_fieldAddr_ref fld27_1 rfl) rfl ?_
        first | refine rgc_q rfl (q_load sz3 rfl rfl) rfl ?_ | refine rgc_q rfl (q_load_ref sz3 rfl rfl rfl) rfl ?_ | refine rgc_q rfl (q_load_tb (x := .d _) sz3 rfl rfl rfl) rfl ?_ | refine rgc_q rfl (q_load_tb (x := .rs _) sz3 rfl rfl rfl) rfl ?_
        refine rgc_q rfl (q_mul rfl rfl (In64.mk (by omega) (by omega))) rfl ?_
        first | refine rgc_q rfl (q_fieldAddr fld34_0 rfl) rfl ?_ | refine rgc_q rfl (q_fieldAddr_ref fld34_0 rfl) rfl ?_
        first | refine rgc_q rfl (q_load sz3 rfl rfl) rfl ?_ | refine rgc_q rfl (q_load_ref sz3 rfl rfl rfl) rfl ?_ | refine rgc_q rfl (q_load_tb (x := .d _) sz3 rfl rfl rfl) rfl ?_ | refine rgc_q rfl (q_load_tb (x := .rs _) sz3 rfl rfl rfl) rfl ?_
        first | refine rgc_q rfl (q_fieldAddr fld34_1 rfl) rfl ?_ | refine rgc_q rfl (q_fieldAddr_ref fld34_1 rfl) rfl ?_
        first | refine rgc_q rfl (q_fieldAddr fld27_0 rfl) rfl ?_ | refine rgc_q rfl (q_fieldAddr_ref fld27_0 rfl) rfl ?_
        first | refine rgc_q rfl (q_load sz3 rfl rfl) rfl ?_ | refine rgc_q rfl (q_load_ref sz3 rfl rfl rfl) rfl ?_ | refine rgc_q rfl (q_load_tb (x := .d _) sz3 rfl rfl rfl) rfl ?_ | refine rgc_q rfl (q_load_tb (x := .rs _) sz3 rfl rfl rfl) rfl ?_
        refine rgc_q rfl (q_mul rfl rfl (In64.mk (by omega) (by omega))) rfl ?_
        refine rgc_q rfl (q_sub rfl rfl (In64.mk (by omega) (by omega))) rfl ?_
        refine rgc_q rfl (q_move (x := .d (.v _)) rfl) rfl ?_
        first | refine rgc_q rfl (q_call en30 (.cons rfl (.cons rfl .nil)) rfl (ceil_p _ _ ⟨by omega, by omega⟩ (by omega))) rfl ?_ | refine rgc_q rfl (q_callF en30 (.cons (by first | exact .d _ | exact .rs rfl | exact .ref rfl | exact .nil _ | exact .tref rfl (by repeat (first | exact .nil | refine .cons (.d _ rfl) ?_ | refine .cons (.rs rfl) ?_))) (.cons (by first | exact .d _ | exact .rs rfl | exact .ref rfl | exact .nil _ | exact .tref rfl (by repeat (first | exact .nil | refine .cons (.d _ rfl) ?_ | refine .cons (.rs rfl) ?_))) .nil)) rfl (ceil_p _ _ ⟨by omega, by omega⟩ (by omega)) (by first | exact .v _ | exact D.Flat.tupF (by repeat first | exact trivial | refine ⟨.v _, ?_⟩) | exact D.Flat.aggF (by repeat first | exact trivial | refine ⟨.v _, ?_⟩))) rfl ?_
        refine rgc_q rfl (q_buildSlice sl22 zr3 rfl rfl (by decide) (.cons rfl (by first | exact .inl rfl | exact .inr ⟨_, rfl⟩) .nil) ⟨rfl, rfl, trivial⟩ rfl (by decide) rfl) rfl ?_
        refine rgc_c rfl rfl (c_append (es' := (((pairsTo l l.length).take (x + 1)).map highP).map iC) sl22 zr3 by3 rfl (by decide) rfl rfl rfl rfl (by (try simp only [List.length_map, List.length_append, List.length_cons, List.length_nil]); omega) (by (try simp only [List.length_map, List.length_append, List.length_cons, List.length_nil]); omega) hs2) ?_
        first | refine rgc_c rfl rfl ((c_store sz22 rfl rfl (by first | exact .inl rfl | exact .inr ⟨_, rfl⟩) rfl rfl (by first | decide | simp) rfl)) ?_ | refine rgc_c rfl rfl ((c_storeR sz22 rfl rfl rfl (by first | decide | simp) rfl)) ?_ | refine rgc_c rfl rfl ((c_storeD sz22 rfl rfl (by first | exact .inl rfl | exact .inr ⟨_, rfl⟩) rfl rfl (by first | decide | simp) rfl)) ?_
        refine rgc_nil ?_
        refine aops_nil ?_
        refine .inl ⟨rfl, x + 1, ⟨rfl, hxl⟩, ?_⟩
        exact le_round [] _ hw2 rfl ⟨(by first | rfl | (simp; done)), (by first | rfl | (simp; done)), (by first | rfl | (simp; done)), (by first | rfl | (simp; done)), (by first | rfl | (simp; done)), trivial⟩ rfl
      ·
        intro x hI
        obtain ⟨rfl, _⟩ := hI
        rw [List.take_length]
        change Awp _ _ _ _ _
        refine awp_seq ?_
        refine awp_region 5 mixed (by kernel_rfl) ?_
        first | refine rg_q (q_load sz22 rfl rfl) ?_ | refine rg_q (q_load_ref sz22 rfl rfl rfl) ?_ | refine rg_q (q_load_tb (x := .d _) sz22 rfl rfl rfl) ?_ | refine rg_q (q_load_tb (x := .rs _) sz22 rfl rfl rfl) ?_
        first | refine rg_q (q_call en31 (.cons rfl .nil) rfl (maxI_p ((pairsTo l l.length).map lowP) (by rw [List.length_map]; exact hlen))) ?_ | refine rg_q (q_callF en31 (.cons (by first | exact .d _ | exact .rs rfl | exact .ref rfl | exact .nil _ | exact .tref rfl (by repeat (first | exact .nil | refine .cons (.d _ rfl) ?_ | refine .cons (.rs rfl) ?_))) .nil) rfl (maxI_p ((pairsTo l l.length).map lowP) (by rw [List.length_map]; exact hlen)) (by first | exact .v _ | exact D.Flat.tupF (by repeat first | exact trivial | refine ⟨.v _, ?_⟩) | exact D.Flat.aggF (by repeat first | exact trivial | refine ⟨.v _, ?_⟩))) ?_
        first | refine rg_q (q_load sz22 rfl rfl) ?_ | refine rg_q (q_load_ref sz22 rfl rfl rfl) ?_ | refine rg_q (q_load_tb (x := .d _) sz22 rfl rfl rfl) ?_ | refine rg_q (q_load_tb (x := .rs _) sz22 rfl rfl rfl) ?_
        first | refine rg_q (q_call en32 (.cons rfl .nil) rfl (minI_p ((pairsTo l l.length).map highP) (by rw [List.length_map]; exact hlen))) ?_ | refine rg_q (q_callF en32 (.cons (by first | exact .d _ | exact .rs rfl | exact .ref rfl | exact .nil _ | exact .tref rfl (by repeat (first | exact .nil | refine .cons (.d _ rfl) ?_ | refine .cons (.rs rfl) ?_))) .nil) rfl (minI_p ((pairsTo l l.length).map highP) (by rw [List.length_map]; exact hlen)) (by first | exact .v _ | exact D.Flat.tupF (by repeat first | exact trivial | refine ⟨.v _, ?_⟩) | exact D.Flat.aggF (by repeat first | exact trivial | refine ⟨.v _, ?_⟩))) ?_
        refine rg_q (q_build (cs := [_, _]) pl27 zr27 rfl (.cons rfl (by first | exact .inl rfl | exact .inr ⟨_, rfl⟩) (.cons rfl (by first | exact .inl rfl | exact .inr ⟨_, rfl⟩) .nil)) ⟨⟨rfl, by decide⟩, ⟨rfl, by decide⟩, trivial⟩ rfl) ?_
        refine rg_nil ?_
        first | refine aops_store sz27 rfl rfl (by first | exact .inl rfl | exact .inr ⟨_, rfl⟩) rfl rfl (by first | decide | simp; done | exact Nat.le_of_ble_eq_true rfl) rfl ?_ | refine aops_storeT (z := .rs _) sz27 rfl rfl rfl rfl (by first | decide | simp) rfl ?_ | refine aops_storeT (z := .d _) sz27 rfl rfl rfl rfl (by first | decide | simp) rfl ?_ | refine aops_storeTA sz27 rfl rfl (by first | exact .inl rfl | exact .inr ⟨_, rfl⟩) rfl rfl (by first | decide | simp) rfl ?_
        refine aops_q rfl (q_assign (x := .d (.v _)) rfl) ?_
        refine aops_nil ?_
        change Awp _ _ _ _ _
        refine awp_ret ?_
        refine ⟨_, (.cons (.cellA rfl rfl sz27 rfl) (.cons (.tmp (by first | exact .d _ | exact .rs rfl | exact .ref rfl | exact .tref rfl (.cons (.d _ rfl) (.cons (.rs rfl) .nil)))) .nil)), ?_⟩
        rw [hz]; rfl
      ·
        exact fun e x h => h.elim
end Go.Proofs.Ytgolkffigoabhaa.Am.M
