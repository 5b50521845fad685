/- Contracts over the abstract machine: parts, pairs and sums of the reference; FocusValues. Conditions: none. -/
import Derived.Test.YtphlaicnmmglhaaGreatE19
set_option linter.unusedVariables false
set_option linter.unusedSimpArgs false
-- mini
namespace Go.Proofs.YtphlaicnmmglhaaGreat.Am.M
open Go

theorem chK_at {l : List Nat} {i k : Nat} (hk : k < 64) : (chK l i)[k]? = l[64 * i + k]? := by
  unfold chK
  rw [List.getElem?_drop, List.getElem?_take, if_pos (by omega)]
def off5 (n f r : Int) : Int := (f * n + r) * 64
theorem off5_in {n f r : Int} (hn : n ≤ 16) (f0 : 0 ≤ f) (f1 : f < n) (r0 : 0 ≤ r) (r1 : r < n) : (0 ≤ f * n ∧ f * n ≤ 256) ∧ 0 ≤ off5 n f r ∧ off5 n f r + 64 ≤ n * n * 64 := by
  have h1 := Int.mul_nonneg f0 (show 0 ≤ n by omega)
  have h2 := Int.mul_le_mul_of_nonneg_right (show f ≤ n - 1 by omega) (show 0 ≤ n by omega)
  have h3 : (n - 1) * n = n * n - n := by grind
  have h4 := Int.mul_le_mul_of_nonneg_right hn (show 0 ≤ n by omega)
  unfold off5
  omega
theorem flat5 (V : List Int) : (D.agg (V.map fv)).Flat := .agg _ (fun d hd => by
  obtain ⟨x, _, rfl⟩ := List.mem_map.1 hd
  exact .v _)
theorem fv_at {V : List Int} {k : Nat} {v : Int} (h : V[k]? = some v) : (V.map fv)[0 + (k : Int).toNat * 1]? = some (fv v) := by rw [Int.toNat_natCast, Nat.zero_add, Nat.mul_one, List.getElem?_map, h]; rfl
theorem sAt_at {S : List Int} (hS : S.length = 64) {i : Nat} (hi : i < 64) : S[i]? = some (sAt S i) := by
  unfold sAt
  rw [List.getD_eq_getElem?_getD, List.getElem?_eq_getElem (by omega)]; rfl
set_option maxRecDepth 100000 in
theorem at5_p (ne : Int) (l : List Nat) (p : Int × Int) (hn : ne ≤ 16) (p1 : 0 ≤ p.1 ∧ p.1 < ne) (p2 : 0 ≤ p.2 ∧ p.2 < ne) : PC Tryz.prog 241 [.agg (mtxC ne l), .v (.int .i64 (p.1)), .v (.int .i64 (p.2))] (.v (.int .i64 (off5 ne p.1 p.2))) := by
 obtain ⟨⟨a1, a2⟩, a3, a4⟩ := off5_in hn p1.1 p1.2 p2.1 p2.2
 have hn2 := mulb (a := ne) (b := ne) (A := 16) (B := 16) (by omega) (by omega) (by omega) (by omega)
 refine pc_of_awp Tryz.func241 rfl Tryz.ntmps241 (rs := [.tmp 6]) Tryz.results241 (by simp) fun w0 => ?_
 refine awp_seq ?_
 refine awp_region 2 mixed (by kernel_rfl) ?_
 refine rg_q (q_box rfl (by exact .inr ⟨_, rfl⟩)) ?_
 refine rg_q (q_assign (x := .d (.v _)) rfl) ?_
 refine rg_nil (aops_nil ?_)
 change Awp _ _ _ _ _
 refine awp_seq ?_
 refine awp_region 8 mixed (by kernel_rfl) ?_
 refine rg_q (q_move (x := .d (.v _)) rfl) (rg_q (q_fieldAddr fld31_0 rfl) (rg_q (q_load sz3 rfl rfl) ?_))
 refine rg_q (q_mul rfl rfl (In64.mk (by omega) (by omega))) ?_
 refine rg_q (q_move (x := .d (.v _)) rfl) ?_
 refine rg_q (q_add rfl rfl (In64.mk (by omega) (by omega))) ?_
 refine rg_q (q_mul rfl rfl (In64.mk (by omega) (by omega))) ?_
 refine rg_q (q_assign (x := .d (.v _)) rfl) ?_
 refine rg_nil (aops_nil ?_)
 change Awp _ _ _ _ _
 refine awp_ret ?_
 refine ⟨_, (.cons (.tmp (by exact .d _)) .nil), ?_⟩
 rfl
set_option maxRecDepth 100000 in
theorem trace5_p (S : List Int) (hS : S.length = 64) : PC Tryz.prog 242 [.sl 1 (S.map iC)] (.agg (S.map fv)) := by
 refine pc_of_awp Tryz.func242 rfl Tryz.ntmps242 (rs := [.cell 2 236]) Tryz.results242 (by simp) fun w0 => ?_
 refine awp_seq ?_
 refine awp_region 0 mixed (by kernel_rfl) ?_
 refine rg_nil ?_
 refine aops_alloc zr236 rfl rfl rfl ?_
 refine aops_nil ?_
 change Awp _ _ _ _ _
 refine awp_seq ?_
 refine awp_region 0 mixed (by kernel_rfl) ?_
 refine rg_nil ?_
 refine aops_alloc zr236 rfl rfl rfl ?_
 refine aops_nil ?_
 change Awp _ _ _ _ _
 refine awp_seq ?_
 refine awp_seq ?_
 refine awp_region 1 mixed (by kernel_rfl) ?_
 refine rg_q (q_assign (x := .d (.v _)) rfl) ?_
 refine rg_nil (aops_nil ?_)
 change Awp _ _ _ _ _
 refine awp_block ?_
 refine awp_loopH [4, 5, 6, 7, 8, 9, 10, 11, 12, 13, 14, 15, 16, 17, 18, 19, 20, 21] [3] (α := Nat) (fun k => [(4, T.i (k : Int))]) (fun k => [(3, .box (outT S k))]) (fun k => k ≤ 64) (fun k => 64 - k) 0 (Nat.zero_le _) ?_ ?_
 · exact le_head (ms := [3]) (by repeat (exact Out.refl _)) ⟨(by rfl), trivial⟩ ⟨(by rfl), trivial⟩ rfl rfl rfl rfl
 ·
  intro k hk
  refine awp_seq ?_
  refine awp_seq ?_
  refine awp_region 8 mixed (by kernel_rfl) ?_
  refine rg_q (q_move (x := .d (.v _)) rfl) (rg_q (q_lss rfl rfl) (rg_q (q_move (x := .d (.v _)) rfl) ?_))
  refine rg_g rfl rfl (fun hG => (q_move (x := .d (.v _)) rfl)) ?_
  refine rg_g rfl rfl (fun hG => (q_move (x := .d (.sl _ _)) rfl)) ?_
  refine rg_g rfl rfl (fun hG => (q_len isl77 rfl (by exact len_map _ _))) ?_
  refine rg_g rfl rfl (fun hG => (q_lss rfl rfl)) ?_
  refine rg_pick rfl rfl rfl rfl rfl rfl ?_
  refine rg_nil (aops_nil ?_)
  change Awp _ _ _ _ _
  refine awp_cond rfl (fun hc3 => ?_) (fun hc3 => ?_)
  ·
   (try simp only [nb, ne_eq] at hc3)
   have hlt : k < S.length := by omega
   obtain ⟨x, hx⟩ : ∃ x, S[k]? = some x := ⟨_, List.getElem?_eq_getElem hlt⟩
   have hst := outT_set hS hx
   have hol : (outT S k).length = 64 := by unfold outT; rw [List.length_append, List.length_map, List.length_take, List.length_replicate]; omega
   refine awp_skip ?_
   change Awp _ _ _ _ _
   refine awp_seq ?_
   refine awp_block ?_
   refine awp_region 7 mixed (by kernel_rfl) ?_
   refine rg_q (q_move (x := .d (.v _)) rfl) (rg_q (q_move (x := .d (.sl _ _)) rfl) (rg_q (q_move (x := .d (.v _)) rfl) ?_))
   refine rg_q (q_indexAddr sl77 rfl rfl (by omega) (map_at (by omega) hx)) ?_
   refine rg_q (q_load sz3 rfl rfl) ?_
   refine rg_q (q_convf int3 flt117 rfl) ?_
   refine rg_q (q_indexAddr_aref ar236 rfl rfl (by omega) (by omega)) ?_
   refine rg_nil ?_
   refine aops_store (cs' := outT S (k + 1)) sz117 rfl rfl (by exact .inl rfl) rfl rfl (by rw [hol]; omega) hst ?_
   refine aops_nil ?_
   change Awp _ _ _ _ _
   refine awp_region 3 mixed (by kernel_rfl) ?_
   refine rg_q (q_move (x := .d (.v _)) rfl) ?_
   refine rg_q (q_add rfl rfl (In64.mk (by omega) (by omega))) ?_
   refine rg_q (q_assign (x := .d (.v _)) rfl) ?_
   refine rg_nil (aops_nil ?_)
   refine ⟨k + 1, by omega, by omega, ?_⟩
   exact le_head (ms := [3]) (by repeat (first | exact Out.head rfl rfl | (refine Out.put ?_ rfl) | (refine Out.site ?_ rfl))) ⟨(by rfl), trivial⟩ ⟨(by rfl), trivial⟩ rfl rfl rfl rfl
  ·
   (try simp only [nb, ne_eq] at hc3)
   have hk64 : k = 64 := by omega
   subst hk64
   rw [outT_all hS]
   refine awp_exit ?_
   change Awp _ _ _ _ _
   refine awp_seq ?_
   refine awp_region 1 mixed (by kernel_rfl) ?_
   refine rg_q (q_load_refA (ds := S.map fv) sz236 rfl rfl (by rw [List.drop_zero]; exact List.take_of_length_le (by rw [List.length_map]; omega)) (by rw [List.length_map]; exact hS)) ?_
   refine rg_nil ?_
   refine aops_store (cs' := S.map fv) sz236 rfl rfl (by exact .inr ⟨_, rfl⟩) (by show (S.map fv).length = 64; rw [List.length_map]; exact hS) rfl (Nat.le_of_ble_eq_true rfl) (setCs_all (by show (S.map fv).length = 64; rw [List.length_map]; exact hS)) ?_
   refine aops_nil ?_
   change Awp _ _ _ _ _
   refine awp_ret ?_
   refine ⟨_, (.cons (.cellA rfl rfl sz236 (by show (S.map fv).length = _; rw [List.length_map]; exact hS)) .nil), ?_⟩
   rfl
set_option maxRecDepth 100000 in
theorem rtraceOf5_p (ne : Int) (l : List Nat) (p : Int × Int) (hn : ne ≤ 16) (p1 : 0 ≤ p.1 ∧ p.1 < ne) (p2 : 0 ≤ p.2 ∧ p.2 < ne) (hw : WhlL l) (hl : (l.length : Int) = ne * ne * 64) : PC Tryz.prog 177 [.agg (mtxC ne l), .agg (shC p)] (.agg (((chK l (p.1 * ne + p.2).toNat).map vI).map fv)) := by
 obtain ⟨⟨a1, a2⟩, a3, a4⟩ := off5_in hn p1.1 p1.2 p2.1 p2.2
 have hn2 := mulb (a := ne) (b := ne) (A := 16) (B := 16) (by omega) (by omega) (by omega) (by omega)
 have ho : off5 ne p.1 p.2 = (p.1 * ne + p.2) * 64 := rfl
 have hBl : l.length ≤ 100000 := by omega
 have hml : (l.map fC).length = l.length := List.length_map _
 have hV : ((chK l (p.1 * ne + p.2).toNat).map vI).length = 64 := by rw [List.length_map]; exact chK_len (m := (ne * ne).toNat) (by omega) (by omega)
 refine pc_of_awpN Tryz.func177 rfl Tryz.ntmps177 (rs := [.cell 4 236]) Tryz.results177 (by simp) fun w0 hmine hrnd hpn => ?_
 refine awp_seq ?_
 refine awp_region 2 mixed (by kernel_rfl) ?_
 refine rg_q (q_box rfl (by exact .inr ⟨_, rfl⟩)) ?_
 refine rg_q (q_box rfl (by exact .inr ⟨_, rfl⟩)) ?_
 refine rg_nil ?_
 refine aops_alloc zr236 rfl rfl rfl ?_
 refine aops_nil ?_
 change Awp _ _ _ _ _
 refine awp_seq ?_
 refine awp_region 1 mixed (by kernel_rfl) ?_
 refine rg_q (q_assign_nil) ?_
 refine rg_nil (aops_nil ?_)
 change Awp _ _ _ _ _
 refine Awp.le (le_own (k := 5) (e := 3) (sz := 1) rfl rfl) ?_
 refine awp_seq ?_
 refine awp_seq ?_
 refine awp_region 1 mixed (by kernel_rfl) ?_
 refine rg_q (q_assign (x := .d (.v _)) rfl) ?_
 refine rg_nil (aops_nil ?_)
 change Awp _ _ _ _ _
 refine awp_block ?_
 refine awp_loopH [5, 6, 7, 8, 9, 10, 11, 12, 13, 14, 15, 16, 17, 18, 19, 20, 21, 22, 23, 24, 25, 26] [5] (α := Nat) (fun k => [(6, T.i (k : Int)), (5, .rs 5)]) (fun k => [(5, .row 3 1 ((((chK l (p.1 * ne + p.2).toNat).map vI).take k).map iC))]) (fun k => k ≤ 64) (fun k => 64 - k) 0 (Nat.zero_le _) ?_ ?_
 · exact le_head (ms := [5]) (by repeat (exact Out.refl _)) ⟨(by rfl), (by rfl), trivial⟩ ⟨(by rfl), trivial⟩ rfl rfl rfl rfl
 ·
  intro k hk
  refine awp_seq ?_
  refine awp_seq ?_
  refine awp_region 2 mixed (by kernel_rfl) ?_
  refine rg_q (q_move (x := .d (.v _)) rfl) (rg_q (q_lss rfl rfl) ?_)
  refine rg_nil (aops_nil ?_)
  change Awp _ _ _ _ _
  refine awp_cond rfl (fun hc3 => ?_) (fun hc3 => ?_)
  ·
   (try simp only [nb, ne_eq] at hc3)
   have hlt : k < 64 := by omega
   have hin : 64 * (p.1 * ne + p.2).toNat + k < l.length := by omega
   obtain ⟨x, hx⟩ : ∃ x, l[64 * (p.1 * ne + p.2).toNat + k]? = some x := ⟨_, List.getElem?_eq_getElem hin⟩
   have hx1 := hw x (List.mem_of_getElem? hx)
   have hxv : ((chK l (p.1 * ne + p.2).toNat).map vI)[k]? = some (vI x) := vI_at (by rw [chK_at hlt]; exact hx)
   have hcast : ((64 * (p.1 * ne + p.2).toNat + k : Nat) : Int) = off5 ne p.1 p.2 + (k : Int) := by omega
   have hs1 : (((chK l (p.1 * ne + p.2).toNat).map vI).take k).map iC ++ [iC (vI x)] = (((chK l (p.1 * ne + p.2).toNat).map vI).take (k + 1)).map iC := by rw [List.take_succ_eq_append_getElem (by omega), (List.getElem?_eq_some_iff.1 hxv).2, List.map_append]; rfl
   have htl : (((chK l (p.1 * ne + p.2).toNat).map vI).take k).length ≤ 64 := by rw [List.length_take]; omega
   refine awp_skip ?_
   change Awp _ _ _ _ _
   refine awp_seq ?_
   refine awp_block ?_
   refine awp_region 15 mixed (by kernel_rfl) ?_
   refine rg_q (q_move (x := .rs _) rfl) (rg_q (q_fieldAddr fld31_1 rfl) (rg_q (q_load sz29 rfl rfl) ?_))
   refine rg_q (q_loadA (ds := [_, _]) sz31 rfl rfl rfl) ?_
   refine rg_q (q_indexAddr_ar ar63 rfl rfl (by omega) (by omega)) ?_
   refine rg_q (q_load sz3 rfl rfl) ?_
   refine rg_q (q_indexAddr_ar ar63 rfl rfl (by omega) (by omega)) ?_
   refine rg_q (q_load sz3 rfl rfl) ?_
   refine rg_q (q_call en241 (.cons rfl (.cons rfl (.cons rfl .nil))) rfl (at5_p ne l p hn p1 p2)) ?_
   refine rg_q (q_move (x := .d (.v _)) rfl) ?_
   refine rg_q (q_add rfl rfl (In64.mk (by omega) (by omega))) ?_
   refine rg_q (q_indexAddr sl29 rfl rfl (by omega) (map_at (k := 64 * (p.1 * ne + p.2).toNat + k) (by omega) hx)) ?_
   refine rg_q (q_load sz117 rfl rfl) ?_
   refine rg_q (q_convfi flt117 int3 rfl hx1.int) ?_
   refine rg_q (q_buildSlice sl77 zr3 rfl rfl (by decide) (.cons rfl (by exact .inl rfl) .nil) ⟨rfl, rfl, trivial⟩ rfl (by decide) rfl) ?_
   refine rg_nil ?_
   refine aops_append sl77 zr3 by3 rfl (by decide) rfl rfl rfl rfl (by (try simp only [List.length_map, List.length_append, List.length_cons, List.length_nil]); omega) (by (try simp only [List.length_map, List.length_append, List.length_cons, List.length_nil]); omega) rfl rfl ?_
   refine aops_q rfl (q_assign (x := .rs _) rfl) ?_
   refine aops_nil ?_
   change Awp _ _ _ _ _
   refine awp_region 3 mixed (by kernel_rfl) ?_
   refine rg_q (q_move (x := .d (.v _)) rfl) ?_
   refine rg_q (q_add rfl rfl (In64.mk (by omega) (by omega))) ?_
   refine rg_q (q_assign (x := .d (.v _)) rfl) ?_
   refine rg_nil (aops_nil ?_)
   refine ⟨k + 1, by omega, by omega, ?_⟩
   exact le_head (ms := [5]) (by repeat (first | exact Out.head rfl rfl | (refine Out.put ?_ rfl) | (refine Out.site ?_ rfl) | (refine Out.killS ?_ rfl))) ⟨(by rfl), (by rfl), trivial⟩ ⟨(by (show Site.row _ _ _ = Site.row _ _ _; rw [← hs1]; rfl)), trivial⟩ rfl rfl rfl rfl
  ·
   (try simp only [nb, ne_eq] at hc3)
   have hk64 : k = 64 := by omega
   subst hk64
   rw [List.take_of_length_le (by omega)]
   refine awp_exit ?_
   change Awp _ _ _ _ _
   refine awp_seq ?_
   refine awp_region 2 mixed (by kernel_rfl) ?_
   refine rg_q (q_move (x := .rs _) rfl) ?_
   refine rg_q (q_callF en242 (.cons (by exact .rs rfl) .nil) rfl (trace5_p ((chK l (p.1 * ne + p.2).toNat).map vI) hV) (by exact flat5 ((chK l (p.1 * ne + p.2).toNat).map vI))) ?_
   refine rg_nil ?_
   refine aops_store (cs' := ((chK l (p.1 * ne + p.2).toNat).map vI).map fv) sz236 rfl rfl (by exact .inr ⟨_, rfl⟩) (by show (((chK l (p.1 * ne + p.2).toNat).map vI).map fv).length = 64; rw [List.length_map]; exact hV) rfl (Nat.le_of_ble_eq_true rfl) (setCs_all (by show (((chK l (p.1 * ne + p.2).toNat).map vI).map fv).length = 64; rw [List.length_map]; exact hV)) ?_
   refine aops_nil ?_
   change Awp _ _ _ _ _
   refine awp_ret ?_
   refine ⟨_, (.cons (.cellA rfl rfl sz236 (by show (((chK l (p.1 * ne + p.2).toNat).map vI).map fv).length = _; rw [List.length_map]; exact hV)) .nil), ?_⟩
   rfl
set_option maxRecDepth 100000 in
theorem ints64_p (V : List Int) (hV : V.length = 64) (hb : ∀ v ∈ V, -2047 ≤ v ∧ v ≤ 2047) : PC Tryz.prog 240 [.agg (V.map fv)] (.sl 1 (V.map iC)) := by
 refine pc_of_awpN Tryz.func240 rfl Tryz.ntmps240 (rs := [.tmp 2]) Tryz.results240 (by simp) fun w0 hmine hrnd hpn => ?_
 refine awp_seq ?_
 refine awp_region 2 mixed (by kernel_rfl) ?_
 refine rg_q (q_box rfl (by exact .inr ⟨_, rfl⟩)) ?_
 refine rg_q (q_assign (x := .d (.sl _ _)) rfl) ?_
 refine rg_nil (aops_nil ?_)
 change Awp _ _ _ _ _
 refine awp_seq ?_
 refine awp_region 1 mixed (by kernel_rfl) ?_
 refine rg_q (q_assign_nil) ?_
 refine rg_nil (aops_nil ?_)
 change Awp _ _ _ _ _
 refine Awp.le (le_own (k := 3) (e := 3) (sz := 1) rfl rfl) ?_
 refine awp_seq ?_
 refine awp_seq ?_
 refine awp_region 1 mixed (by kernel_rfl) ?_
 refine rg_q (q_assign (x := .d (.v _)) rfl) ?_
 refine rg_nil (aops_nil ?_)
 change Awp _ _ _ _ _
 refine awp_block ?_
 refine awp_loopH [3, 4, 5, 6, 7, 8, 9, 10, 11, 12, 13, 14, 15] [3] (α := Nat) (fun k => [(4, T.i (k : Int)), (3, .rs 3)]) (fun k => [(3, .row 3 1 ((V.take k).map iC))]) (fun k => k ≤ 64) (fun k => 64 - k) 0 (Nat.zero_le _) ?_ ?_
 · exact le_head (ms := [3]) (by repeat (exact Out.refl _)) ⟨(by rfl), (by rfl), trivial⟩ ⟨(by rfl), trivial⟩ rfl rfl rfl rfl
 ·
  intro k hk
  refine awp_seq ?_
  refine awp_seq ?_
  refine awp_region 2 mixed (by kernel_rfl) ?_
  refine rg_q (q_move (x := .d (.v _)) rfl) (rg_q (q_lss rfl rfl) ?_)
  refine rg_nil (aops_nil ?_)
  change Awp _ _ _ _ _
  refine awp_cond rfl (fun hc3 => ?_) (fun hc3 => ?_)
  ·
   (try simp only [nb, ne_eq] at hc3)
   have hlt : k < 64 := by omega
   obtain ⟨x, hx⟩ : ∃ x, V[k]? = some x := ⟨_, List.getElem?_eq_getElem (by omega)⟩
   obtain ⟨hx1, hx2⟩ := hb x (List.mem_of_getElem? hx)
   have hld := fv_at hx
   have hs1 : (V.take k).map iC ++ [iC x] = (V.take (k + 1)).map iC := by rw [List.take_succ_eq_append_getElem (by omega), (List.getElem?_eq_some_iff.1 hx).2, List.map_append]; rfl
   have htl : (V.take k).length ≤ 64 := by rw [List.length_take]; omega
   refine awp_skip ?_
   change Awp _ _ _ _ _
   refine awp_seq ?_
   refine awp_block ?_
   refine awp_region 6 mixed (by kernel_rfl) ?_
   refine rg_q (q_move (x := .rs _) rfl) (rg_q (q_move (x := .d (.v _)) rfl) ?_)
   refine rg_q (q_indexAddr_ar ar236 rfl rfl (by omega) (by omega)) ?_
   refine rg_q (q_load sz117 rfl hld) ?_
   refine rg_q (q_convfi flt117 int3 rfl (f32_int (f32_of (by omega) (by omega)))) ?_
   refine rg_q (q_buildSlice sl77 zr3 rfl rfl (by decide) (.cons rfl (by exact .inl rfl) .nil) ⟨rfl, rfl, trivial⟩ rfl (by decide) rfl) ?_
   refine rg_nil ?_
   refine aops_append sl77 zr3 by3 rfl (by decide) rfl rfl rfl rfl (by (try simp only [List.length_map, List.length_append, List.length_cons, List.length_nil]); omega) (by (try simp only [List.length_map, List.length_append, List.length_cons, List.length_nil]); omega) rfl rfl ?_
   refine aops_q rfl (q_assign (x := .rs _) rfl) ?_
   refine aops_nil ?_
   change Awp _ _ _ _ _
   refine awp_region 3 mixed (by kernel_rfl) ?_
   refine rg_q (q_move (x := .d (.v _)) rfl) ?_
   refine rg_q (q_add rfl rfl (In64.mk (by omega) (by omega))) ?_
   refine rg_q (q_assign (x := .d (.v _)) rfl) ?_
   refine rg_nil (aops_nil ?_)
   refine ⟨k + 1, by omega, by omega, ?_⟩
   exact le_head (ms := [3]) (by repeat (first | exact Out.head rfl rfl | (refine Out.put ?_ rfl) | (refine Out.site ?_ rfl) | (refine Out.killS ?_ rfl))) ⟨(by rfl), (by rfl), trivial⟩ ⟨(by (show Site.row _ _ _ = Site.row _ _ _; rw [← hs1]; rfl)), trivial⟩ rfl rfl rfl rfl
  ·
   (try simp only [nb, ne_eq] at hc3)
   have hk64 : k = 64 := by omega
   subst hk64
   rw [List.take_of_length_le (by omega)]
   refine awp_exit ?_
   change Awp _ _ _ _ _
   refine awp_seq ?_
   refine awp_region 2 mixed (by kernel_rfl) ?_
   refine rg_q (q_move (x := .rs _) rfl) (rg_q (q_assign (x := .rs _) rfl) ?_)
   refine rg_nil (aops_nil ?_)
   change Awp _ _ _ _ _
   refine awp_ret ?_
   refine ⟨_, (.cons (.tmp (by exact .rs rfl)) .nil), ?_⟩
   rfl

def prtF (V : List Int) (k : Nat) : List (Int × Int) := (List.range k).map fun i => (reI V i, imI V i)
theorem prtF_succ (V : List Int) (k : Nat) : prtF V (k + 1) = prtF V k ++ [(reI V k, imI V k)] := by unfold prtF; rw [List.range_succ, List.map_append]; rfl
theorem prtF_len (V : List Int) (k : Nat) : (prtF V k).length = k := by unfold prtF; rw [List.length_map, List.length_range]
theorem prtF_at {V : List Int} {n k : Nat} (h : k < n) : (prtF V n)[k]? = some (reI V k, imI V k) := by unfold prtF; rw [List.getElem?_map, List.getElem?_range h]; rfl
set_option maxRecDepth 100000 in
theorem parts5_p (V : List Int) (hV : V.length = 64) (hb : ∀ v ∈ V, -2047 ≤ v ∧ v ≤ 2047) : PC Tryz.prog 176 [.agg (V.map fv)] (.sl 2 ((prtF V 61).map shC)) := by
 refine pc_of_awpN Tryz.func176 rfl Tryz.ntmps176 (rs := [.tmp 2]) Tryz.results176 (by simp) fun w0 hmine hrnd hpn => ?_
 refine awp_seq ?_
 refine awp_region 2 mixed (by kernel_rfl) ?_
 refine rg_q (q_box rfl (by exact .inr ⟨_, rfl⟩)) ?_
 refine rg_q (q_assign (x := .d (.sl _ _)) rfl) ?_
 refine rg_nil (aops_nil ?_)
 change Awp _ _ _ _ _
 refine awp_seq ?_
 refine awp_region 3 mixed (by kernel_rfl) ?_
 refine rg_q (q_loadA (ds := V.map fv) sz236 rfl (by rw [List.drop_zero]; exact List.take_of_length_le (by show (V.map fv).length ≤ 64; rw [List.length_map]; omega)) (by rw [List.length_map]; exact hV)) ?_
 refine rg_q (q_call en240 (.cons rfl .nil) rfl (ints64_p V hV hb)) ?_
 refine rg_q (q_assign (x := .d (.sl _ _)) rfl) ?_
 refine rg_nil (aops_nil ?_)
 change Awp _ _ _ _ _
 refine awp_seq ?_
 refine awp_region 1 mixed (by kernel_rfl) ?_
 refine rg_q (q_assign_nil) ?_
 refine rg_nil (aops_nil ?_)
 change Awp _ _ _ _ _
 refine Awp.le (le_own (k := 4) (e := 63) (sz := 2) rfl rfl) ?_
 refine awp_seq ?_
 refine awp_seq ?_
 refine awp_region 1 mixed (by kernel_rfl) ?_
 refine rg_q (q_assign (x := .d (.v _)) rfl) ?_
 refine rg_nil (aops_nil ?_)
 change Awp _ _ _ _ _
 refine awp_block ?_
 refine awp_loopH [4, 5, 8, 9, 10, 11, 12, 13, 14, 15, 16, 17, 18, 19, 20, 21, 22, 23, 24, 25, 26, 27, 28, 29, 30, 31, 32, 33, 34, 35, 36] [4] (α := Nat) (fun k => [(5, T.i (k : Int)), (4, .rs 4)]) (fun k => [(4, .row 63 2 ((prtF V k).map shC))]) (fun k => k ≤ 61) (fun k => 61 - k) 0 (Nat.zero_le _) ?_ ?_
 · exact le_head (ms := [4]) (by repeat (exact Out.refl _)) ⟨(by rfl), (by rfl), trivial⟩ ⟨(by rfl), trivial⟩ rfl rfl rfl rfl
 ·
  intro k hk
  refine awp_seq ?_
  refine awp_seq ?_
  refine awp_region 2 mixed (by kernel_rfl) ?_
  refine rg_q (q_move (x := .d (.v _)) rfl) (rg_q (q_lss rfl rfl) ?_)
  refine rg_nil (aops_nil ?_)
  change Awp _ _ _ _ _
  refine awp_cond rfl (fun hc4 => ?_) (fun hc4 => ?_)
  ·
   (try simp only [nb, ne_eq] at hc4)
   have hlt : k < 61 := by omega
   have h0 := sAt_at hV (show k < 64 by omega)
   have h1 := sAt_at hV (show k + 1 < 64 by omega)
   have h2 := sAt_at hV (show k + 2 < 64 by omega)
   have h3 := sAt_at hV (show k + 3 < 64 by omega)
   have b0 := sAt_in hb k
   have b1 := sAt_in hb (k + 1)
   have b2 := sAt_in hb (k + 2)
   have b3 := sAt_in hb (k + 3)
   have hml : (V.map iC).length = V.length := List.length_map _
   have hs1 : (prtF V k).map shC ++ [shC (reI V k, imI V k)] = (prtF V (k + 1)).map shC := by rw [prtF_succ, List.map_append]; rfl
   have htl := prtF_len V k
   refine awp_skip ?_
   change Awp _ _ _ _ _
   refine awp_seq ?_
   refine awp_block ?_
   refine awp_region 24 mixed (by kernel_rfl) ?_
   refine rg_q (q_move (x := .rs _) rfl) (rg_q (q_move (x := .d (.sl _ _)) rfl) (rg_q (q_move (x := .d (.v _)) rfl) ?_))
   refine rg_q (q_indexAddr sl77 rfl rfl (by omega) (map_at (k := k) (by omega) h0)) ?_
   refine rg_q (q_load sz3 rfl rfl) (rg_q (q_move (x := .d (.sl _ _)) rfl) (rg_q (q_move (x := .d (.v _)) rfl) ?_))
   refine rg_q (q_add rfl rfl (In64.mk (by omega) (by omega))) ?_
   refine rg_q (q_indexAddr sl77 rfl rfl (by omega) (map_at (k := k + 2) (by omega) h2)) ?_
   refine rg_q (q_load sz3 rfl rfl) ?_
   refine rg_q (q_sub rfl rfl (In64.mk (by omega) (by omega))) ?_
   refine rg_q (q_move (x := .d (.sl _ _)) rfl) (rg_q (q_move (x := .d (.v _)) rfl) ?_)
   refine rg_q (q_add rfl rfl (In64.mk (by omega) (by omega))) ?_
   refine rg_q (q_indexAddr sl77 rfl rfl (by omega) (map_at (k := k + 1) (by omega) h1)) ?_
   refine rg_q (q_load sz3 rfl rfl) (rg_q (q_move (x := .d (.sl _ _)) rfl) (rg_q (q_move (x := .d (.v _)) rfl) ?_))
   refine rg_q (q_add rfl rfl (In64.mk (by omega) (by omega))) ?_
   refine rg_q (q_indexAddr sl77 rfl rfl (by omega) (map_at (k := k + 3) (by omega) h3)) ?_
   refine rg_q (q_load sz3 rfl rfl) ?_
   refine rg_q (q_sub rfl rfl (In64.mk (by omega) (by omega))) ?_
   refine rg_q (q_buildA (cs := [_, _]) ar63 zr63 rfl (.cons rfl (by exact .inl rfl) (.cons rfl (by exact .inl rfl) .nil)) ⟨⟨rfl, by decide⟩, ⟨rfl, by decide⟩, trivial⟩ rfl) ?_
   refine rg_q (q_buildSlice sl140 zr63 rfl rfl (by decide) (.cons rfl (by exact .inr ⟨_, rfl⟩) .nil) ⟨rfl, rfl, trivial⟩ rfl (by decide) rfl) ?_
   refine rg_nil ?_
   refine aops_append sl140 zr63 by63 rfl (by decide) rfl rfl rfl rfl (by (try simp only [List.length_map, List.length_append, List.length_cons, List.length_nil]); omega) (by (try simp only [List.length_map, List.length_append, List.length_cons, List.length_nil]); omega) rfl rfl ?_
   refine aops_q rfl (q_assign (x := .rs _) rfl) ?_
   refine aops_nil ?_
   change Awp _ _ _ _ _
   refine awp_region 3 mixed (by kernel_rfl) ?_
   refine rg_q (q_move (x := .d (.v _)) rfl) ?_
   refine rg_q (q_add rfl rfl (In64.mk (by omega) (by omega))) ?_
   refine rg_q (q_assign (x := .d (.v _)) rfl) ?_
   refine rg_nil (aops_nil ?_)
   refine ⟨k + 1, by omega, by omega, ?_⟩
   exact le_head (ms := [4]) (by repeat (first | exact Out.head rfl rfl | (refine Out.put ?_ rfl) | (refine Out.site ?_ rfl) | (refine Out.killS ?_ rfl))) ⟨(by rfl), (by rfl), trivial⟩ ⟨(by (show Site.row _ _ _ = Site.row _ _ _; rw [← hs1]; rfl)), trivial⟩ rfl rfl rfl rfl
  ·
   (try simp only [nb, ne_eq] at hc4)
   have hk64 : k = 61 := by omega
   subst hk64
   refine awp_exit ?_
   change Awp _ _ _ _ _
   refine awp_seq ?_
   refine awp_region 2 mixed (by kernel_rfl) ?_
   refine rg_q (q_move (x := .rs _) rfl) (rg_q (q_assign (x := .rs _) rfl) ?_)
   refine rg_nil (aops_nil ?_)
   change Awp _ _ _ _ _
   refine awp_ret ?_
   refine ⟨_, (.cons (.tmp (by exact .rs rfl)) .nil), ?_⟩
   rfl

theorem smpS_len {t : Tsk} (h : TskOk t) {y : Int × Int} (hp : (0 ≤ y.1 ∧ y.1 < t.ne) ∧ 0 ≤ y.2 ∧ y.2 < t.ne) : (smpS t y).length = 64 := by
  obtain ⟨h1, h2, h3⟩ := tsk_len h
  obtain ⟨⟨q1, q2⟩, q3⟩ := pr_idx h (j := y.2.toNat) hp.1.1 hp.1.2 (by omega)
  unfold smpS
  rw [List.length_map]
  exact chK_len h1 (by omega)
theorem smpS_in {t : Tsk} (h : TskOk t) (y : Int × Int) : ∀ v ∈ smpS t y, -2047 ≤ v ∧ v ≤ 2047 := vI_in (chK_wh h.wh _)
set_option maxRecDepth 100000 in
theorem rpartsOf_p (t : Tsk) (y : Int × Int) (h : TskOk t) (hp : (0 ≤ y.1 ∧ y.1 < t.ne) ∧ 0 ≤ y.2 ∧ y.2 < t.ne) : PC Tryz.prog 107 [.agg (tskC t), .agg (shC y)] (.sl 2 ((prtF (smpS t y) 61).map shC)) := by
 refine pc_of_awpN Tryz.func107 rfl Tryz.ntmps107 (rs := [.tmp 4]) Tryz.results107 (by simp) fun w0 hmine hrnd hpn => ?_
 refine awp_seq ?_
 refine awp_region 3 mixed (by kernel_rfl) ?_
 refine rg_q (q_box rfl (by exact .inr ⟨_, rfl⟩)) ?_
 refine rg_q (q_box rfl (by exact .inr ⟨_, rfl⟩)) ?_
 refine rg_q (q_assign (x := .d (.sl _ _)) rfl) ?_
 refine rg_nil (aops_nil ?_)
 change Awp _ _ _ _ _
 refine awp_seq ?_
 refine awp_region 6 mixed (by kernel_rfl) ?_
 refine rg_q (q_fieldAddr fld37_1 rfl) ?_
 refine rg_q (q_loadA (ds := [_, _]) sz31 rfl rfl rfl) ?_
 refine rg_q (q_loadA (ds := [_, _]) sz63 rfl rfl rfl) ?_
 refine rg_q (q_call en177 (.cons rfl (.cons rfl .nil)) rfl (rtraceOf5_p t.ne t.bf y h.n2 hp.1 hp.2 h.wh h.nl)) ?_
 refine rg_q (q_call en176 (.cons rfl .nil) rfl (parts5_p (smpS t y) (smpS_len h hp) (smpS_in h y))) ?_
 refine rg_q (q_assign (x := .d (.sl _ _)) rfl) ?_
 refine rg_nil (aops_nil ?_)
 change Awp _ _ _ _ _
 refine awp_ret ?_
 refine ⟨_, (.cons (.tmp (by exact .d _)) .nil), ?_⟩
 rfl

def nuR (t : Tsk) (c : Int) (y : Int × Int) : Int × Int := if inR 0 (smpI t.ar (spI t.g c) y) 60 = true then (smpI t.ar (spI t.g c) y, 0) else (0, 12)
theorem cell_pr {t : Tsk} (h : TskOk t) {c : Int} {pr : Int × Int} (hc : clE t.g c = 0) (hp : (0 ≤ pr.1 ∧ pr.1 < t.ne) ∧ 0 ≤ pr.2 ∧ pr.2 < t.ne) : ArrOk t.ar ∧ ((0 ≤ pr.1 ∧ pr.1 < t.ar.el.length) ∧ 0 ≤ pr.2 ∧ pr.2 < t.ar.el.length) ∧ spotE (spI t.g c) = 0 ∧ plateE (spI t.g c).2 t.ar.ou.t = 0 := by
  obtain ⟨c1, c2⟩ := clE_ok hc
  obtain ⟨i1, i2, i3, i4⟩ := sp_in h c1 c2
  obtain ⟨hao, _⟩ := ckArr_ok h.ck
  have hel := h.el
  exact ⟨hao, by omega, spot_ok.2 ⟨i1, i2⟩, plate_ok.2 ⟨i3, i4⟩⟩
set_option maxRecDepth 100000 in
theorem rnumberAt_p (t : Tsk) (c : Int) (y : Int × Int) (h : TskOk t) (hc : clE t.g c = 0) (hp : (0 ≤ y.1 ∧ y.1 < t.ne) ∧ 0 ≤ y.2 ∧ y.2 < t.ne) : PC Tryz.prog 35 [.agg (tskC t), .v (.int .i64 (c)), .agg (shC y)] (.tup [.v (.int .i64 ((nuR t c y).1)), .v (.int .i64 ((nuR t c y).2))]) := by
 obtain ⟨hg, _, _⟩ := ckG_ok h.gr
 obtain ⟨c1, c2⟩ := clE_ok hc
 have hci := cells_in hg
 obtain ⟨hok, hpk, hs, hpl⟩ := cell_pr h hc hp
 refine pc_of_awpN Tryz.func35 rfl Tryz.ntmps35 (rs := [.tmp 6, .tmp 7]) Tryz.results35 (by simp) fun w0 hmine hrnd hpn => ?_
 refine awp_seq ?_
 refine awp_region 4 mixed (by kernel_rfl) ?_
 refine rg_q (q_box rfl (by exact .inr ⟨_, rfl⟩)) ?_
 refine rg_q (q_box rfl (by exact .inr ⟨_, rfl⟩)) ?_
 refine rg_q (q_assign (x := .d (.v _)) rfl) (rg_q (q_assign (x := .d (.v _)) rfl) ?_)
 refine rg_nil (aops_nil ?_)
 change Awp _ _ _ _ _
 refine awp_seq ?_
 refine awp_region 9 mixed (by kernel_rfl) ?_
 refine rg_q (q_fieldAddr fld37_0 rfl) ?_
 refine rg_q (q_loadA (ds := [_, _, _, _, _, _, _, _, _, _, _]) sz28 rfl rfl rfl) ?_
 refine rg_q (q_fieldAddr fld37_2 rfl) ?_
 refine rg_q (q_loadA (ds := [_, _, _, _, _]) sz35 rfl rfl rfl) ?_
 refine rg_q (q_move (x := .d (.v _)) rfl) ?_
 refine rg_q (q_call en76 (.cons rfl (.cons rfl .nil)) rfl (rspot_p t.g c hg c1 (by omega))) ?_
 refine rg_q (q_loadA (ds := [_, _]) sz63 rfl rfl rfl) ?_
 refine rg_q (q_call en111 (.cons rfl (.cons rfl (.cons rfl .nil))) rfl (rsampleOf_p t.ar (spI t.g c) y hok hpk hs hpl)) ?_
 refine rg_q (q_assign (x := .d (.v _)) rfl) ?_
 refine rg_nil (aops_nil ?_)
 change Awp _ _ _ _ _
 refine awp_seq ?_
 refine awp_seq ?_
 refine awp_region 3 mixed (by kernel_rfl) ?_
 refine rg_q (q_move (x := .d (.v _)) rfl) ?_
 refine rg_q (q_call en31 (.cons rfl (.cons rfl (.cons rfl .nil))) rfl (within4_p _ _ _)) ?_
 refine rg_q (q_not rfl) ?_
 refine rg_nil (aops_nil ?_)
 change Awp _ _ _ _ _
 refine awp_cond rfl (fun hc2 => ?_) (fun hc2 => ?_)
 ·
  (try simp only [nb, ne_eq] at hc2)
  have hz : nuR t c y = (0, 12) := by unfold nuR; rw [if_neg (by rw [hc2]; decide)]
  refine awp_seq ?_
  refine awp_region 2 mixed (by kernel_rfl) ?_
  refine rg_q (q_assign (x := .d (.v _)) rfl) (rg_q (q_assign (x := .d (.v _)) rfl) ?_)
  refine rg_nil (aops_nil ?_)
  change Awp _ _ _ _ _
  refine awp_ret ?_
  refine ⟨_, (.cons (.tmp (by exact .d _)) (.cons (.tmp (by exact .d _)) .nil)), ?_⟩
  rw [hz]; rfl
 ·
  (try simp only [nb, ne_eq] at hc2)
  have hz : nuR t c y = (smpI t.ar (spI t.g c) y, 0) := by unfold nuR; rw [if_pos hc2]
  refine awp_skip ?_
  change Awp _ _ _ _ _
  refine awp_seq ?_
  refine awp_region 3 mixed (by kernel_rfl) ?_
  refine rg_q (q_move (x := .d (.v _)) rfl) (rg_q (q_assign (x := .d (.v _)) rfl) (rg_q (q_assign (x := .d (.v _)) rfl) ?_))
  refine rg_nil (aops_nil ?_)
  change Awp _ _ _ _ _
  refine awp_ret ?_
  refine ⟨_, (.cons (.tmp (by exact .d _)) (.cons (.tmp (by exact .d _)) .nil)), ?_⟩
  rw [hz]; rfl
set_option maxRecDepth 100000 in
theorem rall_p (n : Nat) (hn : n ≤ 1000) : PC Tryz.prog 55 [.v (.int .i64 ((n : Int)))] (.sl 1 ((allL n).map iC)) := by
 refine pc_of_awpN Tryz.func55 rfl Tryz.ntmps55 (rs := [.tmp 2]) Tryz.results55 (by simp) fun w0 hmine hrnd hpn => ?_
 refine awp_seq ?_
 refine awp_region 1 mixed (by kernel_rfl) ?_
 refine rg_q (q_assign (x := .d (.sl _ _)) rfl) ?_
 refine rg_nil (aops_nil ?_)
 change Awp _ _ _ _ _
 refine awp_seq ?_
 refine awp_region 1 mixed (by kernel_rfl) ?_
 refine rg_q (q_assign_nil) ?_
 refine rg_nil (aops_nil ?_)
 change Awp _ _ _ _ _
 refine Awp.le (le_own (k := 3) (e := 3) (sz := 1) rfl rfl) ?_
 refine awp_seq ?_
 refine awp_seq ?_
 refine awp_region 1 mixed (by kernel_rfl) ?_
 refine rg_q (q_assign (x := .d (.v _)) rfl) ?_
 refine rg_nil (aops_nil ?_)
 change Awp _ _ _ _ _
 refine awp_block ?_
 refine awp_loopH [3, 4, 5, 6, 7, 8, 9, 10, 11, 12, 13] [3] (α := Nat) (fun k => [(4, T.i (k : Int)), (3, .rs 3)]) (fun k => [(3, .row 3 1 ((allL k).map iC))]) (fun k => k ≤ n) (fun k => n - k) 0 (Nat.zero_le _) ?_ ?_
 · exact le_head (ms := [3]) (by repeat (exact Out.refl _)) ⟨(by rfl), (by rfl), trivial⟩ ⟨(by rfl), trivial⟩ rfl rfl rfl rfl
 ·
  intro k hk
  have hal := allL_len k
  refine awp_seq ?_
  refine awp_seq ?_
  refine awp_region 3 mixed (by kernel_rfl) ?_
  refine rg_q (q_move (x := .d (.v _)) rfl) (rg_q (q_move (x := .d (.v _)) rfl) (rg_q (q_lss rfl rfl) ?_))
  refine rg_nil (aops_nil ?_)
  change Awp _ _ _ _ _
  refine awp_cond rfl (fun hc3 => ?_) (fun hc3 => ?_)
  ·
   (try simp only [nb, ne_eq] at hc3)
   have hsk : (allL (k + 1)).map iC = (allL k).map iC ++ [[.v (.int .i64 (k : Int))]] := by rw [allL_succ, List.map_append]; rfl
   refine awp_skip ?_
   change Awp _ _ _ _ _
   refine awp_seq ?_
   refine awp_block ?_
   refine awp_region 3 mixed (by kernel_rfl) ?_
   refine rg_q (q_move (x := .rs _) rfl) (rg_q (q_move (x := .d (.v _)) rfl) ?_)
   refine rg_q (q_buildSlice sl77 zr3 rfl rfl (by decide) (.cons rfl (by exact .inl rfl) .nil) ⟨rfl, rfl, trivial⟩ rfl (by decide) rfl) ?_
   refine rg_nil ?_
   refine aops_append sl77 zr3 by3 rfl (by decide) rfl rfl rfl rfl (by (try simp only [List.length_map, List.length_append, List.length_cons, List.length_nil]); omega) (by (try simp only [List.length_map, List.length_append, List.length_cons, List.length_nil]); omega) rfl rfl ?_
   refine aops_q rfl (q_assign (x := .rs _) rfl) ?_
   refine aops_nil ?_
   change Awp _ _ _ _ _
   refine awp_region 3 mixed (by kernel_rfl) ?_
   refine rg_q (q_move (x := .d (.v _)) rfl) ?_
   refine rg_q (q_add rfl rfl (In64.mk (by omega) (by omega))) ?_
   refine rg_q (q_assign (x := .d (.v _)) rfl) ?_
   refine rg_nil (aops_nil ?_)
   refine ⟨k + 1, by omega, by omega, ?_⟩
   exact le_head (ms := [3]) (by repeat (first | exact Out.head rfl rfl | (refine Out.put ?_ rfl) | (refine Out.site ?_ rfl) | (refine Out.killS ?_ rfl))) ⟨(by rfl), (by rfl), trivial⟩ ⟨(by ((show Site.row 3 1 _ = Site.row 3 1 _; rw [hsk]; rfl))), trivial⟩ rfl rfl rfl rfl
  ·
   (try simp only [nb, ne_eq] at hc3)
   have hkn : k = n := by omega
   subst hkn
   refine awp_exit ?_
   change Awp _ _ _ _ _
   refine awp_seq ?_
   refine awp_region 2 mixed (by kernel_rfl) ?_
   refine rg_q (q_move (x := .rs _) rfl) (rg_q (q_assign (x := .rs _) rfl) ?_)
   refine rg_nil (aops_nil ?_)
   change Awp _ _ _ _ _
   refine awp_ret ?_
   refine ⟨_, (.cons (.tmp (by exact .rs rfl)) .nil), ?_⟩
   rfl

def prB (fs dd : List Int) (y : Int × Int) : Bool := decide (y.1 ∈ fs) && !decide (y.1 ∈ dd) && !decide (y.2 ∈ dd)
def pqD (fs dd : List Int) (n i : Nat) : List (Int × Int) := ((List.range i).flatMap fun u : Nat => pqR (u : Int) n).filter (prB fs dd)
theorem pqD_succ (fs dd : List Int) (n i : Nat) : pqD fs dd n (i + 1) = pqD fs dd n i ++ (pqR (i : Int) n).filter (prB fs dd) := by
  unfold pqD
  rw [List.range_succ, List.flatMap_append, List.filter_append]; simp
theorem prR_succ (fs dd : List Int) (x : Int) (j : Nat) : (pqR x (j + 1)).filter (prB fs dd) = (pqR x j).filter (prB fs dd) ++ (if prB fs dd (x, (j : Int)) = true then [(x, (j : Int))] else []) := by
  rw [pqR_succ, List.filter_append]
  congr 1
  by_cases h : prB fs dd (x, (j : Int)) = true
  · rw [if_pos h]; simp [h]
  · rw [if_neg h]; simp [h]
theorem pqR_len (x : Int) (j : Nat) : (pqR x j).length = j := by unfold pqR; rw [List.length_map, List.length_range]
theorem pqD_len (fs dd : List Int) (n : Nat) : ∀ i, (pqD fs dd n i).length ≤ i * n
  | 0 => Nat.zero_le _
  | i + 1 => by
    have ih := pqD_len fs dd n i
    have h := List.length_filter_le (prB fs dd) (pqR (i : Int) n)
    rw [pqR_len] at h
    rw [pqD_succ, List.length_append, Nat.succ_mul]; omega
theorem pqD_all (n : Nat) : pqD (allL n) [] n n = pqL (allL n) n := by
  unfold pqD pqL
  have e : ((List.range n).flatMap fun u : Nat => pqR (u : Int) n) = (allL n).flatMap fun x => pqR x n := by unfold allL; rw [List.flatMap_map]
  rw [e, List.filter_eq_self]
  intro y hy
  obtain ⟨h1, _⟩ := pqL_in hy
  unfold prB
  simp [h1]
set_option maxRecDepth 100000 in
theorem rpairs_p (n : Nat) (hn : n ≤ 16) (fs dd : List Int) : PC Tryz.prog 135 [.v (.int .i64 ((n : Int))), .sl 1 (fs.map iC), .sl 1 (dd.map iC)] (.sl 2 ((pqD fs dd n n).map shC)) := by
 refine pc_of_awpN Tryz.func135 rfl Tryz.ntmps135 (rs := [.tmp 6]) Tryz.results135 (by simp) fun w0 hmine hrnd hpn => ?_
 refine awp_seq ?_
 refine awp_region 1 mixed (by kernel_rfl) ?_
 refine rg_q (q_assign (x := .d (.sl _ _)) rfl) ?_
 refine rg_nil (aops_nil ?_)
 change Awp _ _ _ _ _
 refine awp_seq ?_
 refine awp_region 1 mixed (by kernel_rfl) ?_
 refine rg_q (q_assign_nil) ?_
 refine rg_nil (aops_nil ?_)
 change Awp _ _ _ _ _
 refine Awp.le (le_own (k := 7) (e := 63) (sz := 2) rfl rfl) ?_
 refine awp_seq ?_
 refine awp_seq ?_
 refine awp_region 1 mixed (by kernel_rfl) ?_
 refine rg_q (q_assign (x := .d (.v _)) rfl) ?_
 refine rg_nil (aops_nil ?_)
 change Awp _ _ _ _ _
 refine awp_block ?_
 refine awp_loopH [7, 8, 9, 10, 11, 12, 13, 14, 15, 16, 17, 18, 19, 20, 21, 22, 23, 24, 25, 26, 27, 28, 29, 30, 31, 32, 33, 34, 35, 36, 37, 38, 39, 40] [7] (α := Nat) (fun i => [(8, T.i (i : Int)), (7, .rs 7)]) (fun i => [(7, .row 63 2 ((pqD fs dd n i).map shC))]) (fun i => i ≤ n) (fun i => n - i) 0 (Nat.zero_le _) ?_ ?_
 · exact le_head (ms := [7]) (by repeat (exact Out.refl _)) ⟨(by rfl), (by rfl), trivial⟩ ⟨(by rfl), trivial⟩ rfl rfl rfl rfl
 ·
  intro i hi
  refine awp_seq ?_
  refine awp_seq ?_
  refine awp_region 3 mixed (by kernel_rfl) ?_
  refine rg_q (q_move (x := .d (.v _)) rfl) (rg_q (q_move (x := .d (.v _)) rfl) (rg_q (q_lss rfl rfl) ?_))
  refine rg_nil (aops_nil ?_)
  change Awp _ _ _ _ _
  refine awp_cond rfl (fun hc3 => ?_) (fun hc3 => ?_)
  ·
   (try simp only [nb, ne_eq] at hc3)
   have hlt : i < n := by omega
   refine awp_skip ?_
   change Awp _ _ _ _ _
   refine awp_seq ?_
   refine awp_block ?_
   refine awp_seq ?_
   refine awp_region 1 mixed (by kernel_rfl) ?_
   refine rg_q (q_assign (x := .d (.v _)) rfl) ?_
   refine rg_nil (aops_nil ?_)
   change Awp _ _ _ _ _
   refine awp_block ?_
   refine awp_loopH [7, 9, 15, 16, 17, 18, 19, 20, 21, 22, 23, 24, 25, 26, 27, 28, 29, 30, 31, 32, 33, 34, 35, 36, 37, 38, 39, 40] [7] (α := Nat) (fun j => [(9, T.i (j : Int)), (7, .rs 7)]) (fun j => [(7, .row 63 2 ((pqD fs dd n i ++ (pqR (i : Int) j).filter (prB fs dd)).map shC))]) (fun j => j ≤ n) (fun j => n - j) 0 (Nat.zero_le _) ?_ ?_
   · exact le_head (ms := [7]) (by repeat (exact Out.refl _)) ⟨(by rfl), (by rfl), trivial⟩ ⟨(by ((show Site.row _ _ _ = Site.row _ _ _; (simp [pqR]; done)))), trivial⟩ rfl rfl rfl rfl
   ·
    intro j hj
    have hl1 := pqD_len fs dd n i
    have hl2 := List.length_filter_le (prB fs dd) (pqR (i : Int) j)
    rw [pqR_len] at hl2
    have hl3 := Nat.mul_le_mul (show i ≤ 16 by omega) hn
    refine awp_seq ?_
    refine awp_seq ?_
    refine awp_region 3 mixed (by kernel_rfl) ?_
    refine rg_q (q_move (x := .d (.v _)) rfl) (rg_q (q_move (x := .d (.v _)) rfl) (rg_q (q_lss rfl rfl) ?_))
    refine rg_nil (aops_nil ?_)
    change Awp _ _ _ _ _
    refine awp_cond rfl (fun hc6 => ?_) (fun hc6 => ?_)
    ·
     (try simp only [nb, ne_eq] at hc6)
     have hlj : j < n := by omega
     refine awp_skip ?_
     change Awp _ _ _ _ _
     refine awp_seq ?_
     refine awp_block ?_
     refine awp_seq ?_
     refine awp_region 15 mixed (by kernel_rfl) ?_
     refine rg_q (q_move (x := .d (.sl _ _)) rfl) (rg_q (q_move (x := .d (.v _)) rfl) ?_)
     refine rg_q (q_call en134 (.cons rfl (.cons rfl .nil)) rfl (has5_p _ _)) ?_
     refine rg_q (q_move (x := .d (.v _)) rfl) ?_
     refine rg_g rfl rfl (fun hG => (q_move (x := .d (.sl _ _)) rfl)) ?_
     refine rg_g rfl rfl (fun hG => (q_move (x := .d (.v _)) rfl)) ?_
     refine rg_g rfl rfl (fun hG => (q_call en134 (.cons rfl (.cons rfl .nil)) rfl (has5_p _ _))) ?_
     refine rg_g rfl rfl (fun hG => (q_not rfl)) ?_
     refine rg_pick rfl rfl rfl rfl rfl rfl ?_
     refine rg_q (q_move (x := .d (.v _)) rfl) ?_
     refine rg_g rfl rfl (fun hG => (q_move (x := .d (.sl _ _)) rfl)) ?_
     refine rg_g rfl rfl (fun hG => (q_move (x := .d (.v _)) rfl)) ?_
     refine rg_g rfl rfl (fun hG => (q_call en134 (.cons rfl (.cons rfl .nil)) rfl (has5_p _ _))) ?_
     refine rg_g rfl rfl (fun hG => (q_not rfl)) ?_
     refine rg_pick rfl rfl rfl rfl rfl rfl ?_
     refine rg_nil (aops_nil ?_)
     change Awp _ _ _ _ _
     refine awp_cond rfl (fun hc8 => ?_) (fun hc8 => ?_)
     ·
      (try simp only [nb, ne_eq] at hc8)
      have hb : prB fs dd ((i : Int), (j : Int)) = true := by unfold prB; simp [hc8]
      have hsk : (pqD fs dd n i ++ (pqR (i : Int) (j + 1)).filter (prB fs dd)).map shC = (pqD fs dd n i ++ (pqR (i : Int) j).filter (prB fs dd)).map shC ++ [shC ((i : Int), (j : Int))] := by rw [prR_succ, if_pos hb, ← List.append_assoc, List.map_append]; rfl
      refine awp_region 5 mixed (by kernel_rfl) ?_
      refine rg_q (q_move (x := .rs _) rfl) (rg_q (q_move (x := .d (.v _)) rfl) (rg_q (q_move (x := .d (.v _)) rfl) ?_))
      refine rg_q (q_buildA (cs := [_, _]) ar63 zr63 rfl (.cons rfl (by exact .inl rfl) (.cons rfl (by exact .inl rfl) .nil)) ⟨⟨rfl, by decide⟩, ⟨rfl, by decide⟩, trivial⟩ rfl) ?_
      refine rg_q (q_buildSlice sl140 zr63 rfl rfl (by decide) (.cons rfl (by exact .inr ⟨_, rfl⟩) .nil) ⟨rfl, rfl, trivial⟩ rfl (by decide) rfl) ?_
      refine rg_nil ?_
      refine aops_append sl140 zr63 by63 rfl (by decide) rfl rfl rfl rfl (by (try simp only [List.length_map, List.length_append, List.length_cons, List.length_nil]); omega) (by (try simp only [List.length_map, List.length_append, List.length_cons, List.length_nil]); omega) rfl rfl ?_
      refine aops_q rfl (q_assign (x := .rs _) rfl) ?_
      refine aops_nil ?_
      change Awp _ _ _ _ _
      refine awp_region 3 mixed (by kernel_rfl) ?_
      refine rg_q (q_move (x := .d (.v _)) rfl) ?_
      refine rg_q (q_add rfl rfl (In64.mk (by omega) (by omega))) ?_
      refine rg_q (q_assign (x := .d (.v _)) rfl) ?_
      refine rg_nil (aops_nil ?_)
      refine ⟨j + 1, by omega, by omega, ?_⟩
      exact le_head (ms := [7]) (by repeat (first | exact Out.head rfl rfl | (refine Out.put ?_ rfl) | (refine Out.site ?_ rfl) | (refine Out.killS ?_ rfl))) ⟨(by rfl), (by rfl), trivial⟩ ⟨(by ((show Site.row _ _ _ = Site.row _ _ _; (rw [hsk]; rfl)))), trivial⟩ rfl rfl rfl rfl
     ·
      (try simp only [nb, ne_eq] at hc8)
      have hb : ¬ prB fs dd ((i : Int), (j : Int)) = true := by
       intro q
       unfold prB at q
       simp at q
       simp_all
      have hsk : (pqD fs dd n i ++ (pqR (i : Int) (j + 1)).filter (prB fs dd)).map shC = (pqD fs dd n i ++ (pqR (i : Int) j).filter (prB fs dd)).map shC := by rw [prR_succ, if_neg hb, List.append_nil]
      refine awp_skip ?_
      change Awp _ _ _ _ _
      refine awp_region 3 mixed (by kernel_rfl) ?_
      refine rg_q (q_move (x := .d (.v _)) rfl) ?_
      refine rg_q (q_add rfl rfl (In64.mk (by omega) (by omega))) ?_
      refine rg_q (q_assign (x := .d (.v _)) rfl) ?_
      refine rg_nil (aops_nil ?_)
      refine ⟨j + 1, by omega, by omega, ?_⟩
      exact le_head (ms := [7]) (by repeat (first | exact Out.head rfl rfl | (refine Out.put ?_ rfl))) ⟨(by rfl), (by rfl), trivial⟩ ⟨(by ((show Site.row _ _ _ = Site.row _ _ _; (rw [hsk]; done)))), trivial⟩ rfl rfl rfl rfl
    ·
     (try simp only [nb, ne_eq] at hc6)
     have hjn : j = n := by omega
     subst hjn
     have hsk : (pqD fs dd j (i + 1)).map shC = (pqD fs dd j i ++ (pqR (i : Int) j).filter (prB fs dd)).map shC := by rw [pqD_succ]
     refine awp_exit ?_
     change Awp _ _ _ _ _
     refine awp_region 3 mixed (by kernel_rfl) ?_
     refine rg_q (q_move (x := .d (.v _)) rfl) ?_
     refine rg_q (q_add rfl rfl (In64.mk (by omega) (by omega))) ?_
     refine rg_q (q_assign (x := .d (.v _)) rfl) ?_
     refine rg_nil (aops_nil ?_)
     refine ⟨i + 1, by omega, by omega, ?_⟩
     exact le_head (ms := [7]) (by repeat (first | exact Out.head rfl rfl | (refine Out.put ?_ rfl) | (refine Out.headIn ?_ rfl rfl rfl))) ⟨(by rfl), (by rfl), trivial⟩ ⟨(by ((show Site.row _ _ _ = Site.row _ _ _; (rw [hsk]; done)))), trivial⟩ rfl rfl rfl rfl
  ·
   (try simp only [nb, ne_eq] at hc3)
   have hin : i = n := by omega
   subst hin
   refine awp_exit ?_
   change Awp _ _ _ _ _
   refine awp_seq ?_
   refine awp_region 2 mixed (by kernel_rfl) ?_
   refine rg_q (q_move (x := .rs _) rfl) (rg_q (q_assign (x := .rs _) rfl) ?_)
   refine rg_nil (aops_nil ?_)
   change Awp _ _ _ _ _
   refine awp_ret ?_
   refine ⟨_, (.cons (.tmp (by exact .rs rfl)) .nil), ?_⟩
   rfl

theorem pqD_ev {t : Tsk} (h : t.ne.toNat = t.ar.el.length) : pqD (allL t.ar.el.length) [] t.ar.el.length t.ar.el.length = evL t := by
  rw [pqD_all]; unfold evL; rw [h]
set_option maxRecDepth 100000 in
theorem revery_p (t : Tsk) (h : TskOk t) : PC Tryz.prog 100 [.agg (tskC t)] (.sl 2 ((evL t).map shC)) := by
 have hn1 := h.n1
 have hn2 := h.n2
 have hel := h.el
 have hen : t.ne.toNat = t.ar.el.length := by omega
 refine pc_of_awpN Tryz.func100 rfl Tryz.ntmps100 (rs := [.tmp 2]) Tryz.results100 (by simp) fun w0 hmine hrnd hpn => ?_
 refine awp_seq ?_
 refine awp_region 2 mixed (by kernel_rfl) ?_
 refine rg_q (q_box rfl (by exact .inr ⟨_, rfl⟩)) ?_
 refine rg_q (q_assign (x := .d (.sl _ _)) rfl) ?_
 refine rg_nil (aops_nil ?_)
 change Awp _ _ _ _ _
 refine awp_seq ?_
 refine awp_region 5 mixed (by kernel_rfl) ?_
 refine rg_q (q_fieldAddr fld37_0 rfl) (rg_q (q_fieldAddr fld28_0 rfl) (rg_q (q_load sz22 rfl rfl) ?_))
 refine rg_q (q_len isl22 rfl (by exact len_map _ _)) ?_
 refine rg_q (q_assign (x := .d (.v _)) rfl) ?_
 refine rg_nil (aops_nil ?_)
 change Awp _ _ _ _ _
 refine awp_len (t := 6) rfl (fun hl6 => ?_)
 (try simp only [List.length_map] at hl6)
 refine awp_seq ?_
 refine awp_region 5 mixed (by kernel_rfl) ?_
 refine rg_q (q_move (x := .d (.v _)) rfl) (rg_q (q_move (x := .d (.v _)) rfl) ?_)
 refine rg_q (q_call en55 (.cons rfl .nil) rfl (rall_p t.ar.el.length (by omega))) ?_
 refine rg_q (q_call en135 (.cons rfl (.cons rfl (.cons rfl .nil))) rfl ((by have h := rpairs_p t.ar.el.length (by omega) (allL t.ar.el.length) []; rw [pqD_ev hen] at h; exact h))) ?_
 refine rg_q (q_assign (x := .d (.sl _ _)) rfl) ?_
 refine rg_nil (aops_nil ?_)
 change Awp _ _ _ _ _
 refine awp_ret ?_
 refine ⟨_, (.cons (.tmp (by exact .d _)) .nil), ?_⟩
 rfl
set_option maxRecDepth 100000 in
theorem rnum_p (re im : Int) : PC Tryz.prog 101 [.v (.int .i64 (re)), .v (.int .i64 (im))] (cz re im) := by
 refine pc_of_awp Tryz.func101 rfl Tryz.ntmps101 (rs := [.tmp 4]) Tryz.results101 (by simp) fun w0 => ?_
 refine awp_seq ?_
 refine awp_region 1 mixed (by kernel_rfl) ?_
 refine rg_q (q_assign (x := .d (.v _)) rfl) ?_
 refine rg_nil (aops_nil ?_)
 change Awp _ _ _ _ _
 refine awp_seq ?_
 refine awp_region 6 mixed (by kernel_rfl) ?_
 refine rg_q (q_move (x := .d (.v _)) rfl) ?_
 refine rg_q (q_convf int3 flt167 rfl) ?_
 refine rg_q (q_move (x := .d (.v _)) rfl) ?_
 refine rg_q (q_convf int3 flt167 rfl) ?_
 refine rg_q (q_complex rfl rfl) ?_
 refine rg_q (q_assign (x := .d (.v _)) rfl) ?_
 refine rg_nil (aops_nil ?_)
 change Awp _ _ _ _ _
 refine awp_ret ?_
 refine ⟨_, (.cons (.tmp (by exact .d _)) .nil), ?_⟩
 rfl

theorem vlF_nil (t : Tsk) (c : Int) (s : (Int × Int) × Int) (y : Int × Int) : vlF t c [] s y = if inR 0 (smpI t.ar (spI t.g c) y) 60 = true then ((s.1.1 + reI (smpS t y) (smpI t.ar (spI t.g c) y).toNat, s.1.2 + imI (smpS t y) (smpI t.ar (spI t.g c) y).toNat), s.2 + 1) else s := if_neg (show ¬ (hasI [] y.1 || hasI [] y.2) = true from Bool.false_ne_true)
def PrsOk (t : Tsk) (l : List (Int × Int)) : Prop := (∀ y ∈ l, (0 ≤ y.1 ∧ y.1 < t.ne) ∧ 0 ≤ y.2 ∧ y.2 < t.ne) ∧ l.length ≤ 1600
theorem ev_ok {t : Tsk} (h : TskOk t) : PrsOk t (evL t) := by
  obtain ⟨ha1, ha2⟩ := allL_ok h
  have h1 := h.n1
  have h2 := h.n2
  refine ⟨fun y hy => ?_, ?_⟩
  · obtain ⟨q1, q2, q3⟩ := pqL_in hy
    exact ⟨ha1 _ q1, q2, by omega⟩
  · unfold evL
    rw [pqL_len]
    have := Nat.mul_le_mul ha2 (show t.ne.toNat ≤ 16 by omega)
    omega
set_option maxRecDepth 100000 in
theorem rsum_p (t : Tsk) (c : Int) (l : List (Int × Int)) (h : TskOk t) (hc : clE t.g c = 0) (hl : PrsOk t l) : PC Tryz.prog 99 [.agg (tskC t), .v (.int .i64 (c)), .sl 2 (l.map shC)] (.tup [.v (.int .i64 ((vlA t c [] (l)).1.1)), .v (.int .i64 ((vlA t c [] (l)).1.2)), .v (.int .i64 ((vlA t c [] (l)).2))]) := by
 obtain ⟨hl1, hl2⟩ := hl
 refine pc_of_awpN Tryz.func99 rfl Tryz.ntmps99 (rs := [.tmp 6, .tmp 7, .tmp 8]) Tryz.results99 (by simp) fun w0 hmine hrnd hpn => ?_
 refine awp_seq ?_
 refine awp_region 4 mixed (by kernel_rfl) ?_
 refine rg_q (q_box rfl (by exact .inr ⟨_, rfl⟩)) ?_
 refine rg_q (q_assign (x := .d (.v _)) rfl) (rg_q (q_assign (x := .d (.v _)) rfl) (rg_q (q_assign (x := .d (.v _)) rfl) ?_))
 refine rg_nil (aops_nil ?_)
 change Awp _ _ _ _ _
 refine awp_seq ?_
 refine awp_region 3 mixed (by kernel_rfl) ?_
 refine rg_q (q_assign (x := .d (.v _)) rfl) (rg_q (q_assign (x := .d (.v _)) rfl) (rg_q (q_assign (x := .d (.v _)) rfl) ?_))
 refine rg_nil (aops_nil ?_)
 change Awp _ _ _ _ _
 refine awp_seq ?_
 refine awp_seq ?_
 refine awp_region 1 mixed (by kernel_rfl) ?_
 refine rg_q (q_assign (x := .d (.v _)) rfl) ?_
 refine rg_nil (aops_nil ?_)
 change Awp _ _ _ _ _
 refine awp_block ?_
 refine awp_loopH [9, 10, 11, 12, 13, 14, 15, 16, 17, 18, 19, 20, 21, 22, 23, 24, 25, 26, 27, 28, 29, 30, 31, 32, 33, 34, 35, 36, 37, 38, 39, 40, 41, 42, 43, 44, 45, 46, 47, 48, 49, 50, 51, 52] [] (α := Nat) (fun k => [(12, T.i (k : Int)), (9, .d (.v (.int .i64 ((vlA t c [] (l.take k)).1.1)))), (10, .d (.v (.int .i64 ((vlA t c [] (l.take k)).1.2)))), (11, .d (.v (.int .i64 ((vlA t c [] (l.take k)).2))))]) (fun k => []) (fun k => k ≤ l.length) (fun k => l.length - k) 0 (Nat.zero_le _) ?_ ?_
 · exact le_head (ms := []) (by repeat (exact Out.refl _)) ⟨(by rfl), (by rfl), (by rfl), (by rfl), trivial⟩ trivial rfl rfl rfl rfl
 ·
  intro k hk
  refine awp_seq ?_
  refine awp_seq ?_
  refine awp_region 4 mixed (by kernel_rfl) ?_
  refine rg_q (q_move (x := .d (.v _)) rfl) (rg_q (q_move (x := .d (.sl _ _)) rfl) ?_)
  refine rg_q (q_len isl140 rfl (by exact len_map _ _)) ?_
  refine rg_q (q_lss rfl rfl) ?_
  refine rg_nil (aops_nil ?_)
  change Awp _ _ _ _ _
  refine awp_len (t := 17) rfl (fun hl17 => ?_)
  (try simp only [List.length_map] at hl17)
  refine awp_cond rfl (fun hc3 => ?_) (fun hc3 => ?_)
  ·
   (try simp only [nb, ne_eq] at hc3)
   have hlt : k < l.length := by omega
   obtain ⟨y, hy⟩ : ∃ y, l[k]? = some y := ⟨_, List.getElem?_eq_getElem hlt⟩
   have hp := hl1 y (List.mem_of_getElem? hy)
   obtain ⟨⟨b1, b2⟩, ⟨b3, b4⟩, b5, b6⟩ := vlA_in h (c := c) (dd := []) (l := l) k (by omega)
   obtain ⟨⟨hre1, hre2⟩, him1, him2⟩ := reim_in h y (smpI t.ar (spI t.g c) y).toNat
   have hst := vlA_snoc (t := t) (c := c) (dd := []) hy
   rw [vlF_nil] at hst
   refine awp_skip ?_
   change Awp _ _ _ _ _
   refine awp_seq ?_
   refine awp_block ?_
   refine awp_seq ?_
   refine awp_region 12 mixed (by kernel_rfl) ?_
   refine rg_q (q_loadA sz37 rfl rfl rfl) ?_
   refine rg_q (q_move (x := .d (.v _)) rfl) (rg_q (q_move (x := .d (.sl _ _)) rfl) (rg_q (q_move (x := .d (.v _)) rfl) ?_))
   refine rg_q (q_indexAddr sl140 rfl rfl (by omega) (map_at (by omega) hy)) ?_
   refine rg_q (q_loadA (ds := [_, _]) sz63 rfl rfl rfl) ?_
   refine rg_q (q_call en35 (.cons rfl (.cons rfl (.cons rfl .nil))) rfl (rnumberAt_p t c y h hc hp)) ?_
   refine rg_q (q_move (x := .d (.tup _)) rfl) (rg_q (q_extract rfl rfl) (rg_q (q_extract rfl rfl) (rg_q (q_assign (x := .d (.v _)) rfl) (rg_q (q_assign (x := .d (.v _)) rfl) ?_))))
   refine rg_nil (aops_nil ?_)
   change Awp _ _ _ _ _
   refine awp_seq ?_
   refine awp_seq ?_
   refine awp_region 2 mixed (by kernel_rfl) ?_
   refine rg_q (q_move (x := .d (.v _)) rfl) (rg_q (q_neq rfl rfl) ?_)
   refine rg_nil (aops_nil ?_)
   change Awp _ _ _ _ _
   refine awp_cond rfl (fun hc6 => ?_) (fun hc6 => ?_)
   ·
    (try simp only [nb, ne_eq] at hc6)
    have hin : ¬ inR 0 (smpI t.ar (spI t.g c) y) 60 = true := fun q => by unfold nuR at hc6; rw [if_pos q] at hc6; exact hc6 rfl
    rw [if_neg hin] at hst
    refine awp_exit ?_
    change Awp _ _ _ _ _
    refine awp_region 3 mixed (by kernel_rfl) ?_
    refine rg_q (q_move (x := .d (.v _)) rfl) ?_
    refine rg_q (q_add rfl rfl (In64.mk (by omega) (by omega))) ?_
    refine rg_q (q_assign (x := .d (.v _)) rfl) ?_
    refine rg_nil (aops_nil ?_)
    refine ⟨k + 1, by omega, by omega, ?_⟩
    exact le_head (ms := []) (by repeat (first | exact Out.head rfl rfl | (refine Out.put ?_ rfl))) ⟨(by rfl), (by (show T.d _ = T.d _; (rw [hst]; done))), (by (show T.d _ = T.d _; (rw [hst]; done))), (by (show T.d _ = T.d _; (rw [hst]; done))), trivial⟩ trivial rfl rfl rfl rfl
   ·
    (try simp only [nb, ne_eq] at hc6)
    have hin : inR 0 (smpI t.ar (spI t.g c) y) 60 = true := by
     cases q : inR 0 (smpI t.ar (spI t.g c) y) 60 with
     | true => rfl
     | false => unfold nuR at hc6; rw [q, if_neg (by decide)] at hc6; cases hc6
    rw [if_pos hin] at hst
    obtain ⟨n1, n2⟩ := inR_iff.1 hin
    have hnu : nuR t c y = (smpI t.ar (spI t.g c) y, 0) := by unfold nuR; rw [if_pos hin]
    have hpt := prtF_at (V := smpS t y) (n := 61) (k := (smpI t.ar (spI t.g c) y).toNat) (by omega)
    rw [hnu]
    refine awp_skip ?_
    change Awp _ _ _ _ _
    refine awp_seq ?_
    refine awp_regionM 11 [none, none, none, none, none, none, none, none, none, some 15, some 15] mixed (by kernel_rfl) ?_
    refine rgm_q rfl (q_loadA sz37 rfl rfl rfl) ?_
    refine rgm_q rfl (q_move (x := .d (.sl _ _)) rfl) ?_
    refine rgm_q rfl (q_move (x := .d (.v _)) rfl) ?_
    refine rgm_q rfl (q_indexAddr sl140 rfl rfl (by omega) (map_at (by omega) hy)) ?_
    refine rgm_q rfl (q_loadA (ds := [_, _]) sz63 rfl rfl rfl) ?_
    refine rgm_q rfl (q_call en107 (.cons rfl (.cons rfl .nil)) rfl (rpartsOf_p t y h hp)) ?_
    refine rgm_q rfl (q_move (x := .d (.v _)) rfl) ?_
    refine rgm_q rfl (q_indexAddr sl140 rfl rfl (by omega) (map_at (k := (smpI t.ar (spI t.g c) y).toNat) (by omega) hpt)) ?_
    refine rgm_q rfl (q_loadA (ds := [_, _]) sz63 rfl rfl rfl) ?_
    refine rgm_m (k := 15) rfl rfl (by rfl) (m_alloc zr63 rfl rfl) ?_
    refine rgm_m (k := 15) rfl rfl (by rfl) (m_store sz63 rfl rfl (by exact .inr ⟨_, rfl⟩) rfl rfl (by decide) rfl) ?_
    refine rgm_nil (aops_nil ?_)
    change Awp _ _ _ _ _
    refine Awp.le (le_freeze 15 15 0 (cs := [.v (.int .i64 (reI (smpS t y) (smpI t.ar (spI t.g c) y).toNat)), .v (.int .i64 (imI (smpS t y) (smpI t.ar (spI t.g c) y).toNat))]) rfl rfl rfl rfl hmine) ?_
    refine awp_region 13 mixed (by kernel_rfl) ?_
    refine rg_q (q_move (x := .d (.v _)) rfl) ?_
    refine rg_q (q_indexAddr_ar ar63 rfl rfl (by omega) (by omega)) ?_
    refine rg_q (q_load sz3 rfl rfl) ?_
    refine rg_q (q_add rfl rfl (In64.mk (by omega) (by omega))) ?_
    refine rg_q (q_move (x := .d (.v _)) rfl) ?_
    refine rg_q (q_indexAddr_ar ar63 rfl rfl (by omega) (by omega)) ?_
    refine rg_q (q_load sz3 rfl rfl) ?_
    refine rg_q (q_add rfl rfl (In64.mk (by omega) (by omega))) ?_
    refine rg_q (q_move (x := .d (.v _)) rfl) ?_
    refine rg_q (q_add rfl rfl (In64.mk (by omega) (by omega))) ?_
    refine rg_q (q_assign (x := .d (.v _)) rfl) (rg_q (q_assign (x := .d (.v _)) rfl) (rg_q (q_assign (x := .d (.v _)) rfl) ?_))
    refine rg_nil (aops_nil ?_)
    change Awp _ _ _ _ _
    refine awp_region 3 mixed (by kernel_rfl) ?_
    refine rg_q (q_move (x := .d (.v _)) rfl) ?_
    refine rg_q (q_add rfl rfl (In64.mk (by omega) (by omega))) ?_
    refine rg_q (q_assign (x := .d (.v _)) rfl) ?_
    refine rg_nil (aops_nil ?_)
    refine ⟨k + 1, by omega, by omega, ?_⟩
    exact le_head (ms := []) (by repeat (first | exact Out.head rfl rfl | (refine Out.put ?_ rfl) | (refine Out.site ?_ rfl) | (refine Out.headIn ?_ rfl rfl rfl))) ⟨(by rfl), (by (show T.d _ = T.d _; (rw [hst]; done))), (by (show T.d _ = T.d _; (rw [hst]; done))), (by (show T.d _ = T.d _; (rw [hst]; done))), trivial⟩ trivial rfl rfl rfl rfl
  ·
   (try simp only [nb, ne_eq] at hc3)
   have hkl : k = l.length := by omega
   subst hkl
   rw [List.take_length] at *
   refine awp_exit ?_
   change Awp _ _ _ _ _
   refine awp_seq ?_
   refine awp_region 6 mixed (by kernel_rfl) ?_
   refine rg_q (q_move (x := .d (.v _)) rfl) (rg_q (q_move (x := .d (.v _)) rfl) (rg_q (q_move (x := .d (.v _)) rfl) (rg_q (q_assign (x := .d (.v _)) rfl) (rg_q (q_assign (x := .d (.v _)) rfl) (rg_q (q_assign (x := .d (.v _)) rfl) ?_)))))
   refine rg_nil (aops_nil ?_)
   change Awp _ _ _ _ _
   refine awp_ret ?_
   refine ⟨_, (.cons (.tmp (by exact .d _)) (.cons (.tmp (by exact .d _)) (.cons (.tmp (by exact .d _)) .nil))), ?_⟩
   rfl
set_option maxRecDepth 100000 in
theorem rvalueAt_p (t : Tsk) (c : Int) (h : TskOk t) (hc : clE t.g c = 0) : PC Tryz.prog 27 [.agg (tskC t), .v (.int .i64 (c))] (.tup [cz (vlI t c).1.1 (vlI t c).1.2, .v (.int .i64 ((vlI t c).2))]) := by
 refine pc_of_awpN Tryz.func27 rfl Tryz.ntmps27 (rs := [.tmp 4, .tmp 5]) Tryz.results27 (by simp) fun w0 hmine hrnd hpn => ?_
 refine awp_seq ?_
 refine awp_region 3 mixed (by kernel_rfl) ?_
 refine rg_q (q_box rfl (by exact .inr ⟨_, rfl⟩)) ?_
 refine rg_q (q_assign (x := .d (.v _)) rfl) (rg_q (q_assign (x := .d (.v _)) rfl) ?_)
 refine rg_nil (aops_nil ?_)
 change Awp _ _ _ _ _
 refine awp_seq ?_
 refine awp_region 12 mixed (by kernel_rfl) ?_
 refine rg_q (q_loadA sz37 rfl rfl rfl) ?_
 refine rg_q (q_move (x := .d (.v _)) rfl) ?_
 refine rg_q (q_loadA sz37 rfl rfl rfl) ?_
 refine rg_q (q_call en100 (.cons rfl .nil) rfl (revery_p t h)) ?_
 refine rg_q (q_call en99 (.cons rfl (.cons rfl (.cons rfl .nil))) rfl (rsum_p t c (evL t) h hc (ev_ok h))) ?_
 refine rg_q (q_move (x := .d (.tup _)) rfl) (rg_q (q_extract rfl rfl) (rg_q (q_extract rfl rfl) (rg_q (q_extract rfl rfl) (rg_q (q_assign (x := .d (.v _)) rfl) (rg_q (q_assign (x := .d (.v _)) rfl) ?_)))))
 refine rg_q (q_assign (x := .d (.v _)) rfl) ?_
 refine rg_nil (aops_nil ?_)
 change Awp _ _ _ _ _
 refine awp_seq ?_
 refine awp_region 6 mixed (by kernel_rfl) ?_
 refine rg_q (q_move (x := .d (.v _)) rfl) (rg_q (q_move (x := .d (.v _)) rfl) ?_)
 refine rg_q (q_call en101 (.cons rfl (.cons rfl .nil)) rfl (rnum_p _ _)) ?_
 refine rg_q (q_move (x := .d (.v _)) rfl) (rg_q (q_assign (x := .d (.v _)) rfl) (rg_q (q_assign (x := .d (.v _)) rfl) ?_))
 refine rg_nil (aops_nil ?_)
 change Awp _ _ _ _ _
 refine awp_ret ?_
 refine ⟨_, (.cons (.tmp (by exact .d _)) (.cons (.tmp (by exact .d _)) .nil)), ?_⟩
 rfl
set_option maxRecDepth 100000 in
theorem open5_p (t : Tsk) (hw : (ckT t).2 ≠ 0) : PC Tryz.prog 112 [.agg (tskC t)] (.tup [.v (.pointer none), .v (.int .i64 ((ckT t).2))]) := by
 refine pc_of_awpN Tryz.func112 rfl Tryz.ntmps112 (rs := [.tmp 2, .tmp 3]) Tryz.results112 (by simp) fun w0 hmine hrnd hpn => ?_
 refine awp_seq ?_
 refine awp_region 3 mixed (by kernel_rfl) ?_
 refine rg_q (q_box rfl (by exact .inr ⟨_, rfl⟩)) ?_
 refine rg_q (q_assign (x := .d (.v _)) rfl) (rg_q (q_assign (x := .d (.v _)) rfl) ?_)
 refine rg_nil (aops_nil ?_)
 change Awp _ _ _ _ _
 refine awp_seq ?_
 refine awp_seq ?_
 refine awp_region 7 mixed (by kernel_rfl) ?_
 refine rg_q (q_loadA sz37 rfl rfl rfl) ?_
 refine rg_q (q_call en20 (.cons rfl .nil) rfl (checkTask5_p t)) ?_
 refine rg_q (q_move (x := .d (.tup _)) rfl) (rg_q (q_extract rfl rfl) (rg_q (q_extract rfl rfl) (rg_q (q_assign (x := .d (.v _)) rfl) (rg_q (q_assign (x := .d (.v _)) rfl) ?_))))
 refine rg_nil (aops_nil ?_)
 change Awp _ _ _ _ _
 refine awp_seq ?_
 refine awp_region 2 mixed (by kernel_rfl) ?_
 refine rg_q (q_move (x := .d (.v _)) rfl) (rg_q (q_neq rfl rfl) ?_)
 refine rg_nil (aops_nil ?_)
 change Awp _ _ _ _ _
 refine awp_cond rfl (fun hc2 => ?_) (fun hc2 => ?_)
 ·
  (try simp only [nb, ne_eq] at hc2)
  refine awp_seq ?_
  refine awp_region 3 mixed (by kernel_rfl) ?_
  refine rg_q (q_move (x := .d (.v _)) rfl) (rg_q (q_assign (x := .d (.v _)) rfl) (rg_q (q_assign (x := .d (.v _)) rfl) ?_))
  refine rg_nil (aops_nil ?_)
  change Awp _ _ _ _ _
  refine awp_ret ?_
  refine ⟨_, (.cons (.tmp (by exact .d _)) (.cons (.tmp (by exact .d _)) .nil)), ?_⟩
  rfl
 ·
  (try simp only [nb, ne_eq] at hc2)
  exact absurd hc2 hw
set_option maxRecDepth 100000 in
theorem openPair5_p (t : Tsk) (c : Int) (pr : Int × Int) (hw : (ckT t).2 ≠ 0) : PC Tryz.prog 108 [.agg (tskC t), .v (.int .i64 (c)), .agg (shC pr)] (.tup [.v (.pointer none), .v (.int .i64 ((ckT t).2))]) := by
 refine pc_of_awpN Tryz.func108 rfl Tryz.ntmps108 (rs := [.tmp 6, .tmp 7]) Tryz.results108 (by simp) fun w0 hmine hrnd hpn => ?_
 refine awp_seq ?_
 refine awp_region 4 mixed (by kernel_rfl) ?_
 refine rg_q (q_box rfl (by exact .inr ⟨_, rfl⟩)) ?_
 refine rg_q (q_box rfl (by exact .inr ⟨_, rfl⟩)) ?_
 refine rg_q (q_assign (x := .d (.v _)) rfl) (rg_q (q_assign (x := .d (.v _)) rfl) ?_)
 refine rg_nil (aops_nil ?_)
 change Awp _ _ _ _ _
 refine awp_seq ?_
 refine awp_region 7 mixed (by kernel_rfl) ?_
 refine rg_q (q_loadA sz37 rfl rfl rfl) ?_
 refine rg_q (q_call en112 (.cons rfl .nil) rfl (open5_p t hw)) ?_
 refine rg_q (q_move (x := .d (.tup _)) rfl) (rg_q (q_extract rfl rfl) (rg_q (q_extract rfl rfl) (rg_q (q_assign (x := .d (.v _)) rfl) (rg_q (q_assign (x := .d (.v _)) rfl) ?_))))
 refine rg_nil (aops_nil ?_)
 change Awp _ _ _ _ _
 refine awp_seq ?_
 refine awp_seq ?_
 refine awp_region 2 mixed (by kernel_rfl) ?_
 refine rg_q (q_move (x := .d (.v _)) rfl) (rg_q (q_neq rfl rfl) ?_)
 refine rg_nil (aops_nil ?_)
 change Awp _ _ _ _ _
 refine awp_cond rfl (fun hc2 => ?_) (fun hc2 => ?_)
 ·
  (try simp only [nb, ne_eq] at hc2)
  refine awp_seq ?_
  refine awp_region 3 mixed (by kernel_rfl) ?_
  refine rg_q (q_move (x := .d (.v _)) rfl) (rg_q (q_assign (x := .d (.v _)) rfl) (rg_q (q_assign (x := .d (.v _)) rfl) ?_))
  refine rg_nil (aops_nil ?_)
  change Awp _ _ _ _ _
  refine awp_ret ?_
  refine ⟨_, (.cons (.tmp (by exact .d _)) (.cons (.tmp (by exact .d _)) .nil)), ?_⟩
  rfl
 ·
  (try simp only [nb, ne_eq] at hc2)
  exact absurd hc2 hw
set_option maxRecDepth 100000 in
theorem openCell5_p (t : Tsk) (c : Int) (hw : (ckT t).2 ≠ 0) : PC Tryz.prog 94 [.agg (tskC t), .v (.int .i64 (c))] (.tup [.v (.pointer none), .v (.int .i64 ((ckT t).2))]) := by
 refine pc_of_awpN Tryz.func94 rfl Tryz.ntmps94 (rs := [.tmp 4, .tmp 5]) Tryz.results94 (by simp) fun w0 hmine hrnd hpn => ?_
 refine awp_seq ?_
 refine awp_region 3 mixed (by kernel_rfl) ?_
 refine rg_q (q_box rfl (by exact .inr ⟨_, rfl⟩)) ?_
 refine rg_q (q_assign (x := .d (.v _)) rfl) (rg_q (q_assign (x := .d (.v _)) rfl) ?_)
 refine rg_nil (aops_nil ?_)
 change Awp _ _ _ _ _
 refine awp_seq ?_
 refine awp_region 8 mixed (by kernel_rfl) ?_
 refine rg_q (q_loadA sz37 rfl rfl rfl) ?_
 refine rg_q (q_move (x := .d (.v _)) rfl) ?_
 refine rg_q (q_buildA (cs := [_, _]) ar63 zr63 rfl .nil trivial rfl) ?_
 refine rg_q (q_call en108 (.cons rfl (.cons rfl (.cons rfl .nil))) rfl (openPair5_p t c (0, 0) hw)) ?_
 refine rg_q (q_extract rfl rfl) (rg_q (q_extract rfl rfl) (rg_q (q_assign (x := .d (.v _)) rfl) (rg_q (q_assign (x := .d (.v _)) rfl) ?_)))
 refine rg_nil (aops_nil ?_)
 change Awp _ _ _ _ _
 refine awp_ret ?_
 refine ⟨_, (.cons (.tmp (by exact .d _)) (.cons (.tmp (by exact .d _)) .nil)), ?_⟩
 rfl
set_option maxRecDepth 100000 in
theorem valueAtW_p (t : Tsk) (c : Int) (hw : (ckT t).2 ≠ 0) : PC Tryz.prog 23 [.agg (tskC t), .v (.int .i64 (c))] (.tup [.v (.complex .f64 0 0), .v (.int .i64 (0)), .v (.int .i64 ((ckT t).2))]) := by
 refine pc_of_awpN Tryz.func23 rfl Tryz.ntmps23 (rs := [.tmp 4, .tmp 5, .tmp 6]) Tryz.results23 (by simp) fun w0 hmine hrnd hpn => ?_
 refine awp_seq ?_
 refine awp_region 4 mixed (by kernel_rfl) ?_
 refine rg_q (q_box rfl (by exact .inr ⟨_, rfl⟩)) ?_
 refine rg_q (q_assign (x := .d (.v _)) rfl) (rg_q (q_assign (x := .d (.v _)) rfl) (rg_q (q_assign (x := .d (.v _)) rfl) ?_))
 refine rg_nil (aops_nil ?_)
 change Awp _ _ _ _ _
 refine awp_seq ?_
 refine awp_region 8 mixed (by kernel_rfl) ?_
 refine rg_q (q_loadA sz37 rfl rfl rfl) ?_
 refine rg_q (q_move (x := .d (.v _)) rfl) ?_
 refine rg_q (q_call en94 (.cons rfl (.cons rfl .nil)) rfl (openCell5_p t c hw)) ?_
 refine rg_q (q_move (x := .d (.tup _)) rfl) (rg_q (q_extract rfl rfl) (rg_q (q_extract rfl rfl) (rg_q (q_assign (x := .d (.v _)) rfl) (rg_q (q_assign (x := .d (.v _)) rfl) ?_))))
 refine rg_nil (aops_nil ?_)
 change Awp _ _ _ _ _
 refine awp_seq ?_
 refine awp_seq ?_
 refine awp_region 2 mixed (by kernel_rfl) ?_
 refine rg_q (q_move (x := .d (.v _)) rfl) (rg_q (q_neq rfl rfl) ?_)
 refine rg_nil (aops_nil ?_)
 change Awp _ _ _ _ _
 refine awp_cond rfl (fun hc2 => ?_) (fun hc2 => ?_)
 ·
  (try simp only [nb, ne_eq] at hc2)
  refine awp_seq ?_
  refine awp_region 4 mixed (by kernel_rfl) ?_
  refine rg_q (q_move (x := .d (.v _)) rfl) (rg_q (q_assign (x := .d (.v _)) rfl) (rg_q (q_assign (x := .d (.v _)) rfl) (rg_q (q_assign (x := .d (.v _)) rfl) ?_)))
  refine rg_nil (aops_nil ?_)
  change Awp _ _ _ _ _
  refine awp_ret ?_
  refine ⟨_, (.cons (.tmp (by exact .d _)) (.cons (.tmp (by exact .d _)) (.cons (.tmp (by exact .d _)) .nil))), ?_⟩
  rfl
 ·
  (try simp only [nb, ne_eq] at hc2)
  exact absurd hc2 hw
set_option maxRecDepth 100000 in
theorem valueAtC_p (t : Tsk) (c : Int) (h : TskOk t) (hc : clE t.g c ≠ 0) : PC Tryz.prog 23 [.agg (tskC t), .v (.int .i64 (c))] (.tup [.v (.complex .f64 0 0), .v (.int .i64 (0)), .v (.int .i64 (clE t.g c))]) := by
 refine pc_of_awpN Tryz.func23 rfl Tryz.ntmps23 (rs := [.tmp 4, .tmp 5, .tmp 6]) Tryz.results23 (by simp) fun w0 hmine hrnd hpn => ?_
 refine awp_seq ?_
 refine awp_region 4 mixed (by kernel_rfl) ?_
 refine rg_q (q_box rfl (by exact .inr ⟨_, rfl⟩)) ?_
 refine rg_q (q_assign (x := .d (.v _)) rfl) (rg_q (q_assign (x := .d (.v _)) rfl) (rg_q (q_assign (x := .d (.v _)) rfl) ?_))
 refine rg_nil (aops_nil ?_)
 change Awp _ _ _ _ _
 refine awp_seq ?_
 refine awp_region 8 mixed (by kernel_rfl) ?_
 refine rg_q (q_loadA sz37 rfl rfl rfl) ?_
 refine rg_q (q_move (x := .d (.v _)) rfl) ?_
 refine rg_q (q_call en94 (.cons rfl (.cons rfl .nil)) rfl (openCell_p t c h)) ?_
 refine rg_q (q_move (x := .d (.tup _)) rfl) (rg_q (q_extract rfl rfl) (rg_q (q_extract rfl rfl) (rg_q (q_assign (x := .d (.pt _ _)) rfl) (rg_q (q_assign (x := .d (.v _)) rfl) ?_))))
 refine rg_nil (aops_nil ?_)
 change Awp _ _ _ _ _
 refine awp_seq ?_
 refine awp_seq ?_
 refine awp_region 2 mixed (by kernel_rfl) ?_
 refine rg_q (q_move (x := .d (.v _)) rfl) (rg_q (q_neq rfl rfl) ?_)
 refine rg_nil (aops_nil ?_)
 change Awp _ _ _ _ _
 refine awp_cond rfl (fun hc2 => ?_) (fun hc2 => ?_)
 ·
  (try simp only [nb, ne_eq] at hc2)
  refine awp_seq ?_
  refine awp_region 4 mixed (by kernel_rfl) ?_
  refine rg_q (q_move (x := .d (.v _)) rfl) (rg_q (q_assign (x := .d (.v _)) rfl) (rg_q (q_assign (x := .d (.v _)) rfl) (rg_q (q_assign (x := .d (.v _)) rfl) ?_)))
  refine rg_nil (aops_nil ?_)
  change Awp _ _ _ _ _
  refine awp_ret ?_
  refine ⟨_, (.cons (.tmp (by exact .d _)) (.cons (.tmp (by exact .d _)) (.cons (.tmp (by exact .d _)) .nil))), ?_⟩
  rfl
 ·
  (try simp only [nb, ne_eq] at hc2)
  exact absurd hc2 hc

def tcE (t : Tsk) (c : Int) : Int := if (ckT t).2 ≠ 0 then (ckT t).2 else clE t.g c
theorem tcE_zero {t : Tsk} {c : Int} (h : tcE t c = 0) : TskOk t ∧ clE t.g c = 0 := by
  unfold tcE at h
  by_cases h1 : (ckT t).2 ≠ 0
  · rw [if_pos h1] at h; exact absurd h h1
  · rw [if_neg h1] at h; exact ⟨ckT_ok (Decidable.not_not.1 h1), h⟩
def cvD (z : Nat × Nat) : D := .v (.complex .f64 z.1 z.2)
def czP (x : Int × Int) : Nat × Nat := (FloatKind.f64.nearest x.1, FloatKind.f64.nearest x.2)
def vaR (t : Tsk) (c : Int) : ((Nat × Nat) × Int) × Int := if tcE t c ≠ 0 then (((0, 0), 0), tcE t c) else ((czP (vlI t c).1, (vlI t c).2), 0)
theorem valueAt5_p (t : Tsk) (c : Int) : PC Tryz.prog 23 [.agg (tskC t), .v (.int .i64 c)] (.tup [cvD (vaR t c).1.1, .v (.int .i64 (vaR t c).1.2), .v (.int .i64 (vaR t c).2)]) := by
  by_cases hw : (ckT t).2 ≠ 0
  · have e : tcE t c = (ckT t).2 := by unfold tcE; rw [if_pos hw]
    have hv : vaR t c = (((0, 0), 0), (ckT t).2) := by unfold vaR; rw [e, if_pos hw]
    rw [hv]
    exact valueAtW_p t c hw
  · have h := ckT_ok (Decidable.not_not.1 hw)
    have e : tcE t c = clE t.g c := by unfold tcE; rw [if_neg hw]
    by_cases hc : clE t.g c ≠ 0
    · have hv : vaR t c = (((0, 0), 0), clE t.g c) := by unfold vaR; rw [e, if_pos hc]
      rw [hv]
      exact valueAtC_p t c h hc
    · have hv : vaR t c = ((czP (vlI t c).1, (vlI t c).2), 0) := by unfold vaR; rw [e, if_neg hc]
      rw [hv]
      exact valueAt_p t c h (Decidable.not_not.1 hc)
theorem sbB_self (a b : Nat) : sbB a b a b = true := by simp [sbB]
set_option maxRecDepth 100000 in
theorem focusValues_p (t : Tsk) (c : Int) : PC Tryz.prog 4 [.agg (tskC t), .v (.int .i64 (c))] (.v (.bool (true))) := by
  refine pc_of_awpN Tryz.func4 rfl Tryz.ntmps4 (rs := [.tmp 4]) Tryz.results4 (by simp) fun w0 hmine hrnd hpn => ?_
  refine awp_seq ?_
  refine awp_region 2 mixed (by kernel_rfl) ?_
  refine rg_q (q_box rfl (by exact .inr ⟨_, rfl⟩)) ?_
  refine rg_q (q_assign (x := .d (.v _)) rfl) ?_
  refine rg_nil (aops_nil ?_)
  change Awp _ _ _ _ _
  refine awp_seq ?_
  refine awp_seq ?_
  refine awp_region 2 mixed (by kernel_rfl) ?_
  refine rg_q (q_call en18 .nil rfl (awake5_p)) ?_
  refine rg_q (q_not rfl) ?_
  refine rg_nil (aops_nil ?_)
  change Awp _ _ _ _ _
  refine awp_cond rfl (fun hc1 => ?_) (fun hc1 => ?_)
  ·
    simp at hc1
  ·
    (try simp only [nb, ne_eq] at hc1)
    refine awp_skip ?_
    change Awp _ _ _ _ _
    refine awp_seq ?_
    refine awp_seq ?_
    refine awp_region 3 mixed (by kernel_rfl) ?_
    refine rg_q (q_loadA sz37 rfl rfl rfl) ?_
    refine rg_q (q_call en19 (.cons rfl .nil) rfl (light_p _)) ?_
    refine rg_q (q_not rfl) ?_
    refine rg_nil (aops_nil ?_)
    change Awp _ _ _ _ _
    refine awp_cond rfl (fun hc3 => ?_) (fun hc3 => ?_)
    ·
      (try simp only [nb, ne_eq] at hc3)
      refine awp_seq ?_
      refine awp_region 1 mixed (by kernel_rfl) ?_
      refine rg_q (q_assign (x := .d (.v _)) rfl) ?_
      refine rg_nil (aops_nil ?_)
      change Awp _ _ _ _ _
      refine awp_ret ?_
      refine ⟨_, (.cons (.tmp (by exact .d _)) .nil), ?_⟩
      rfl
    ·
      (try simp only [nb, ne_eq] at hc3)
      obtain ⟨hl1, hl2⟩ := lit_le hc3
      refine awp_skip ?_
      change Awp _ _ _ _ _
      refine awp_seq ?_
      refine awp_region 11 mixed (by kernel_rfl) ?_
      refine rg_q (q_loadA sz37 rfl rfl rfl) ?_
      refine rg_q (q_call en21 (.cons rfl .nil) rfl (rcopyT_p _ (by omega) (by omega))) ?_
      refine rg_q (q_move (x := .d (.v _)) rfl) ?_
      refine rg_q (q_call en23 (.cons rfl (.cons rfl .nil)) rfl (valueAt5_p _ _)) ?_
      refine rg_q (q_move (x := .d (.tup _)) rfl) (rg_q (q_extract rfl rfl) (rg_q (q_extract rfl rfl) (rg_q (q_extract rfl rfl) (rg_q (q_assign (x := .d (.v _)) rfl) (rg_q (q_assign (x := .d (.v _)) rfl) ?_)))))
      refine rg_q (q_assign (x := .d (.v _)) rfl) ?_
      refine rg_nil (aops_nil ?_)
      change Awp _ _ _ _ _
      refine awp_seq ?_
      refine awp_region 3 mixed (by kernel_rfl) ?_
      refine rg_q (q_loadA sz37 rfl rfl rfl) ?_
      refine rg_q (q_call en24 (.cons rfl .nil) rfl (rtaskErr_p _)) ?_
      refine rg_q (q_assign (x := .d (.v _)) rfl) ?_
      refine rg_nil (aops_nil ?_)
      change Awp _ _ _ _ _
      refine awp_seq ?_
      refine awp_seq ?_
      refine awp_region 9 mixed (by kernel_rfl) ?_
      refine rg_q (q_move (x := .d (.v _)) rfl) (rg_q (q_eql rfl rfl) (rg_q (q_move (x := .d (.v _)) rfl) ?_))
      refine rg_g rfl rfl (fun hG => (q_fieldAddr fld37_2 rfl)) ?_
      refine rg_g rfl rfl (fun hG => (q_loadA (ds := [_, _, _, _, _]) sz35 rfl rfl rfl)) ?_
      refine rg_g rfl rfl (fun hG => (q_move (x := .d (.v _)) rfl)) ?_
      refine rg_g rfl rfl (fun hG => (q_call en25 (.cons rfl (.cons rfl .nil)) rfl (risCell_p t.g c (ckG_ok (ckT_ok (of_decide_eq_true (T.bool_inj (a := _) hG.1))).gr).1))) ?_
      refine rg_g rfl rfl (fun hG => (q_not rfl)) ?_
      refine rg_pick rfl rfl rfl rfl rfl rfl ?_
      refine rg_nil (aops_nil ?_)
      change Awp _ _ _ _ _
      refine awp_cond rfl (fun hc7 => ?_) (fun hc7 => ?_)
      ·
        (try simp only [nb, ne_eq] at hc7)
        have hw : tcE t c = 6 := by unfold tcE clE; rw [if_neg (fun q => q hc7.1), hc7.2]; rfl
        have hz : vaR t c = (((0, 0), 0), 6) := by unfold vaR; rw [hw]; rfl
        refine awp_region 1 mixed (by kernel_rfl) ?_
        refine rg_q (q_assign (x := .d (.v _)) rfl) ?_
        refine rg_nil (aops_nil ?_)
        change Awp _ _ _ _ _
        refine awp_seq ?_
        refine awp_seq ?_
        refine awp_region 2 mixed (by kernel_rfl) ?_
        refine rg_q (q_move (x := .d (.v _)) rfl) (rg_q (q_neq rfl rfl) ?_)
        refine rg_nil (aops_nil ?_)
        change Awp _ _ _ _ _
        refine awp_cond rfl (fun hc9 => ?_) (fun hc9 => ?_)
        ·
          (try simp only [nb, ne_eq] at hc9)
          refine awp_seq ?_
          refine awp_region 12 mixed (by kernel_rfl) ?_
          refine rg_q (q_move (x := .d (.v _)) rfl) (rg_q (q_move (x := .d (.v _)) rfl) (rg_q (q_eql rfl rfl) (rg_q (q_move (x := .d (.v _)) rfl) ?_)))
          refine rg_g rfl rfl (fun hG => (q_move (x := .d (.v _)) rfl)) ?_
          refine rg_g rfl rfl (fun hG => (q_eql rfl rfl)) ?_
          refine rg_pick rfl rfl rfl rfl rfl rfl ?_
          refine rg_q (q_move (x := .d (.v _)) rfl) ?_
          refine rg_g rfl rfl (fun hG => (q_move (x := .d (.v _)) rfl)) ?_
          refine rg_g rfl rfl (fun hG => (q_call en26 (.cons rfl (.cons rfl .nil)) rfl (sameBits_p _ _ _ _))) ?_
          refine rg_pick rfl rfl rfl rfl rfl rfl ?_
          refine rg_q (q_assign (x := .d (.v _)) rfl) ?_
          refine rg_nil (aops_nil ?_)
          change Awp _ _ _ _ _
          refine awp_ret ?_
          refine ⟨_, (.cons (.tmp (by exact .d _)) .nil), ?_⟩
          rw [hz]; simp [retD, sbB, cvD]
        ·
          simp at hc9
      ·
        (try simp only [nb, ne_eq] at hc7)
        have hw : tcE t c = (ckT t).2 := by
          unfold tcE
          by_cases q : (ckT t).2 = 0
          · rw [if_neg (fun w => w q), q]
            rcases hc7 with w | w
            · exact absurd q w
            · unfold clE; rw [w]; rfl
          · rw [if_pos q]
        refine awp_skip ?_
        change Awp _ _ _ _ _
        refine awp_seq ?_
        refine awp_seq ?_
        refine awp_region 2 mixed (by kernel_rfl) ?_
        refine rg_q (q_move (x := .d (.v _)) rfl) (rg_q (q_neq rfl rfl) ?_)
        refine rg_nil (aops_nil ?_)
        change Awp _ _ _ _ _
        refine awp_cond rfl (fun hc9 => ?_) (fun hc9 => ?_)
        ·
          (try simp only [nb, ne_eq] at hc9)
          have hz : vaR t c = (((0, 0), 0), (ckT t).2) := by unfold vaR; rw [hw, if_pos hc9]
          refine awp_seq ?_
          refine awp_region 12 mixed (by kernel_rfl) ?_
          refine rg_q (q_move (x := .d (.v _)) rfl) (rg_q (q_move (x := .d (.v _)) rfl) (rg_q (q_eql rfl rfl) (rg_q (q_move (x := .d (.v _)) rfl) ?_)))
          refine rg_g rfl rfl (fun hG => (q_move (x := .d (.v _)) rfl)) ?_
          refine rg_g rfl rfl (fun hG => (q_eql rfl rfl)) ?_
          refine rg_pick rfl rfl rfl rfl rfl rfl ?_
          refine rg_q (q_move (x := .d (.v _)) rfl) ?_
          refine rg_g rfl rfl (fun hG => (q_move (x := .d (.v _)) rfl)) ?_
          refine rg_g rfl rfl (fun hG => (q_call en26 (.cons rfl (.cons rfl .nil)) rfl (sameBits_p _ _ _ _))) ?_
          refine rg_pick rfl rfl rfl rfl rfl rfl ?_
          refine rg_q (q_assign (x := .d (.v _)) rfl) ?_
          refine rg_nil (aops_nil ?_)
          change Awp _ _ _ _ _
          refine awp_ret ?_
          refine ⟨_, (.cons (.tmp (by exact .d _)) .nil), ?_⟩
          rw [hz]; simp [retD, sbB, cvD]
        ·
          (try simp only [nb, ne_eq] at hc9)
          have hz : vaR t c = ((czP (vlI t c).1, (vlI t c).2), 0) := by unfold vaR; rw [hw, if_neg (fun q => q hc9)]
          obtain ⟨hok, hcl⟩ := tcE_zero (hw.trans hc9)
          refine awp_skip ?_
          change Awp _ _ _ _ _
          refine awp_seq ?_
          refine awp_region 8 mixed (by kernel_rfl) ?_
          refine rg_q (q_loadA sz37 rfl rfl rfl) ?_
          refine rg_q (q_move (x := .d (.v _)) rfl) ?_
          refine rg_q (q_call en27 (.cons rfl (.cons rfl .nil)) rfl (rvalueAt_p _ _ (by assumption) (by assumption))) ?_
          refine rg_q (q_move (x := .d (.tup _)) rfl) (rg_q (q_extract rfl rfl) (rg_q (q_extract rfl rfl) (rg_q (q_assign (x := .d (.v _)) rfl) (rg_q (q_assign (x := .d (.v _)) rfl) ?_))))
          refine rg_nil (aops_nil ?_)
          change Awp _ _ _ _ _
          refine awp_seq ?_
          refine awp_region 13 mixed (by kernel_rfl) ?_
          refine rg_q (q_move (x := .d (.v _)) rfl) (rg_q (q_eql rfl rfl) (rg_q (q_move (x := .d (.v _)) rfl) ?_))
          refine rg_g rfl rfl (fun hG => (q_move (x := .d (.v _)) rfl)) ?_
          refine rg_g rfl rfl (fun hG => (q_move (x := .d (.v _)) rfl)) ?_
          refine rg_g rfl rfl (fun hG => (q_call en26 (.cons rfl (.cons rfl .nil)) rfl (sameBits_p _ _ _ _))) ?_
          refine rg_pick rfl rfl rfl rfl rfl rfl ?_
          refine rg_q (q_move (x := .d (.v _)) rfl) ?_
          refine rg_g rfl rfl (fun hG => (q_move (x := .d (.v _)) rfl)) ?_
          refine rg_g rfl rfl (fun hG => (q_move (x := .d (.v _)) rfl)) ?_
          refine rg_g rfl rfl (fun hG => (q_eql rfl rfl)) ?_
          refine rg_pick rfl rfl rfl rfl rfl rfl ?_
          refine rg_q (q_assign (x := .d (.v _)) rfl) ?_
          refine rg_nil (aops_nil ?_)
          change Awp _ _ _ _ _
          refine awp_ret ?_
          refine ⟨_, (.cons (.tmp (by exact .d _)) .nil), ?_⟩
          rw [hz]; simp [retD, sbB_self, cvD, czP, cz]
end Go.Proofs.YtphlaicnmmglhaaGreat.Am.M
