/- Contracts over the abstract machine: the reference of chapter 4: echoes and traces. Conditions: none. -/
import Derived.Test.YtblbnagdhcpnoaaGreatK20
set_option linter.unusedVariables false
set_option linter.unusedSimpArgs false
-- mini
namespace Go.Proofs.YtblbnagdhcpnoaaGreat.Am.M
open Go
set_option maxRecDepth 100000 in
theorem rnumber_p (s : Int × Int) (t : Int) (h1 : 0 ≤ s.1) (h2 : s.1 ≤ 1000000000000) (h3 : 1 ≤ s.2) (h4 : s.2 ≤ 100000000) (h5 : 0 ≤ t) (h6 : t ≤ 1000000000000) : PC Tryz.prog 71 [.agg (shC s), .v (.int .i64 (t))] (.v (.int .i64 (rndI (t - s.1) s.2))) := by
  refine pc_of_awp Tryz.func71 rfl Tryz.ntmps71 (rs := [.tmp 4]) Tryz.results71 (by simp) fun w0 => ?_
  refine awp_seq ?_
  refine awp_region 2 mixed (by kernel_rfl) ?_
  refine rg_q (q_box rfl (by exact .inr ⟨_, rfl⟩)) ?_
  refine rg_q (q_assign (x := .d (.v _)) rfl) ?_
  refine rg_nil ?_
  refine aops_nil ?_
  change Awp _ _ _ _ _
  refine awp_seq ?_
  refine awp_region 8 mixed (by kernel_rfl) ?_
  refine rg_q (q_move (x := .d (.v _)) rfl) ?_
  refine rg_q (q_fieldAddr fld26_0 rfl) ?_
  refine rg_q (q_load sz3 rfl rfl) ?_
  refine rg_q (q_sub rfl rfl (In64.mk (by omega) (by omega))) ?_
  refine rg_q (q_fieldAddr fld26_1 rfl) ?_
  refine rg_q (q_load sz3 rfl rfl) ?_
  refine rg_q (q_call en89 (.cons rfl (.cons rfl .nil)) rfl (rrounded4_p _ _ (by omega) (by omega) (by omega) (by omega))) ?_
  refine rg_q (q_assign (x := .d (.v _)) rfl) ?_
  refine rg_nil ?_
  refine aops_nil ?_
  change Awp _ _ _ _ _
  refine awp_ret ?_
  refine ⟨_, (.cons (.tmp (by exact .d _)) .nil), ?_⟩
  rfl

theorem el_in {a : Arr} (hok : ArrOk a) {i : Int} (h1 : 0 ≤ i) (h2 : i < a.el.length) : (-100000 ≤ (elAt a i).1 ∧ (elAt a i).1 ≤ 100000) ∧ -100000 ≤ (elAt a i).2 ∧ (elAt a i).2 < 0 :=
  hok.el _ (List.mem_of_getElem? (el_at h1 h2))
theorem plate_ok {z t : Int} : plateE z t = 0 ↔ 1 ≤ z ∧ z ≤ t - 1 := by
  unfold plateE; rw [must_zero (by decide)]; simp [inR]
theorem way_of {a : Arr} (hok : ArrOk a) {i : Int} (h1 : 0 ≤ i) (h2 : i < a.el.length) {t : Int × Int} (hs : spotE t = 0) (hp : plateE t.2 a.ou.t = 0) {m : Md} (hm : m.t = a.ou.t) : wayE m (elAt a i) t = 0 := by
  obtain ⟨⟨e1, e2⟩, e3, e4⟩ := el_in hok h1 h2
  have hp2 := plate_ok.1 hp
  unfold wayE
  rw [first_zero]
  intro x hx
  simp only [List.mem_cons, List.not_mem_nil, or_false] at hx
  rcases hx with rfl | rfl | rfl | rfl
  · exact spot_ok.2 (by omega)
  · exact hs
  · rw [must_zero (by decide)]; simpa using e4
  · rw [must_zero (by decide), hm]; simp [inR]; omega
set_option maxRecDepth 100000 in
theorem rechoAt_p (a : Arr) (t p : Int × Int) (hok : ArrOk a) (hpk : (0 ≤ p.1 ∧ p.1 < a.el.length) ∧ 0 ≤ p.2 ∧ p.2 < a.el.length) (hs : spotE t = 0) (hp : plateE t.2 a.ou.t = 0) : PC Tryz.prog 30 [.agg (arrC a), .agg (shC t), .agg (shC p)] (.v (.int .i64 (echI a t p))) := by
  obtain ⟨⟨p1, p2⟩, p3, p4⟩ := hpk
  have hx := el_at p1 p2
  have hy := el_at p3 p4
  have hw1 := way_of hok p1 p2 hs hp (m := a.ou) rfl
  have hw2 := way_of hok p3 p4 hs hp (m := a.ba) hok.th.symm
  have e1 : ((p.1.toNat : Nat) : Int) = p.1 := by omega
  have e2 : ((p.2.toNat : Nat) : Int) = p.2 := by omega
  have r1 := rt_in a.ou (elAt a p.1) t
  have r2 := rt_in a.ba (elAt a p.2) t
  refine pc_of_awpN Tryz.func30 rfl Tryz.ntmps30 (rs := [.tmp 6]) Tryz.results30 (by simp) fun w0 hmine hrnd hpn => ?_
  refine awp_seq ?_
  refine awp_region 4 mixed (by kernel_rfl) ?_
  refine rg_q (q_box rfl (by exact .inr ⟨_, rfl⟩)) ?_
  refine rg_q (q_box rfl (by exact .inr ⟨_, rfl⟩)) ?_
  refine rg_q (q_box rfl (by exact .inr ⟨_, rfl⟩)) ?_
  refine rg_q (q_assign (x := .d (.v _)) rfl) ?_
  refine rg_nil ?_
  refine aops_nil ?_
  change Awp _ _ _ _ _
  refine awp_seq ?_
  refine awp_region 22 mixed (by kernel_rfl) ?_
  refine rg_q (q_fieldAddr fld28_1 rfl) ?_
  refine rg_q (q_loadA (ds := [_, _, _, _]) sz24 rfl rfl rfl) ?_
  refine rg_q (q_fieldAddr fld28_0 rfl) ?_
  refine rg_q (q_load sz22 rfl rfl) ?_
  refine rg_q (q_indexAddr_ar ar33 rfl rfl (by omega) (by omega)) ?_
  refine rg_q (q_load sz3 rfl rfl) ?_
  refine rg_q (q_indexAddr sl22 rfl rfl (by omega) (map_at (k := p.1.toNat) (by omega) hx)) ?_
  refine rg_q (q_loadA (ds := [_, _]) sz50 rfl rfl rfl) ?_
  refine rg_q (q_loadA (ds := [_, _]) sz50 rfl rfl rfl) ?_
  refine rg_q (q_call en69 (.cons rfl (.cons rfl (.cons rfl .nil))) rfl (xrounded_p a.ou (elAt a p.1) t hok.ou hw1)) ?_
  refine rg_q (q_fieldAddr fld28_2 rfl) ?_
  refine rg_q (q_loadA (ds := [_, _, _, _]) sz24 rfl rfl rfl) ?_
  refine rg_q (q_fieldAddr fld28_0 rfl) ?_
  refine rg_q (q_load sz22 rfl rfl) ?_
  refine rg_q (q_indexAddr_ar ar33 rfl rfl (by omega) (by omega)) ?_
  refine rg_q (q_load sz3 rfl rfl) ?_
  refine rg_q (q_indexAddr sl22 rfl rfl (by omega) (map_at (k := p.2.toNat) (by omega) hy)) ?_
  refine rg_q (q_loadA (ds := [_, _]) sz50 rfl rfl rfl) ?_
  refine rg_q (q_loadA (ds := [_, _]) sz50 rfl rfl rfl) ?_
  refine rg_q (q_call en69 (.cons rfl (.cons rfl (.cons rfl .nil))) rfl (xrounded_p a.ba (elAt a p.2) t hok.ba hw2)) ?_
  refine rg_q (q_add rfl rfl (In64.mk (by omega) (by omega))) ?_
  refine rg_q (q_assign (x := .d (.v _)) rfl) ?_
  refine rg_nil ?_
  refine aops_nil ?_
  change Awp _ _ _ _ _
  refine awp_ret ?_
  refine ⟨_, (.cons (.tmp (by exact .d _)) .nil), ?_⟩
  rfl
set_option maxRecDepth 100000 in
theorem rsampleOf_p (a : Arr) (t p : Int × Int) (hok : ArrOk a) (hpk : (0 ≤ p.1 ∧ p.1 < a.el.length) ∧ 0 ≤ p.2 ∧ p.2 < a.el.length) (hs : spotE t = 0) (hp : plateE t.2 a.ou.t = 0) : PC Tryz.prog 32 [.agg (arrC a), .agg (shC t), .agg (shC p)] (.v (.int .i64 (smpI a t p))) := by
  have he := ech_in a t p
  refine pc_of_awpN Tryz.func32 rfl Tryz.ntmps32 (rs := [.tmp 6]) Tryz.results32 (by simp) fun w0 hmine hrnd hpn => ?_
  refine awp_seq ?_
  refine awp_region 4 mixed (by kernel_rfl) ?_
  refine rg_q (q_box rfl (by exact .inr ⟨_, rfl⟩)) ?_
  refine rg_q (q_box rfl (by exact .inr ⟨_, rfl⟩)) ?_
  refine rg_q (q_box rfl (by exact .inr ⟨_, rfl⟩)) ?_
  refine rg_q (q_assign (x := .d (.v _)) rfl) ?_
  refine rg_nil ?_
  refine aops_nil ?_
  change Awp _ _ _ _ _
  refine awp_seq ?_
  refine awp_region 8 mixed (by kernel_rfl) ?_
  refine rg_q (q_fieldAddr fld28_3 rfl) ?_
  refine rg_q (q_loadA (ds := [_, _]) sz26 rfl rfl rfl) ?_
  refine rg_q (q_loadA (ds := [_, _, _, _, _, _, _, _, _, _, _]) sz28 rfl rfl rfl) ?_
  refine rg_q (q_loadA (ds := [_, _]) sz50 rfl rfl rfl) ?_
  refine rg_q (q_loadA (ds := [_, _]) sz33 rfl rfl rfl) ?_
  refine rg_q (q_call en30 (.cons rfl (.cons rfl (.cons rfl .nil))) rfl (rechoAt_p a t p hok hpk hs hp)) ?_
  refine rg_q (q_call en71 (.cons rfl (.cons rfl .nil)) rfl (rnumber_p a.ts (echI a t p) hok.t1 hok.t2 hok.t3 hok.t4 (by omega) (by omega))) ?_
  refine rg_q (q_assign (x := .d (.v _)) rfl) ?_
  refine rg_nil ?_
  refine aops_nil ?_
  change Awp _ _ _ _ _
  refine awp_ret ?_
  refine ⟨_, (.cons (.tmp (by exact .d _)) .nil), ?_⟩
  rfl

theorem rnd_btw {m n lo hi : Int} (hn : 1 ≤ n) (h1 : lo * n ≤ m) (h2 : m ≤ hi * n) : lo ≤ rndI m n ∧ rndI m n ≤ hi := by
  unfold rndI
  have e1 : lo * (2 * n) = 2 * (lo * n) := by grind
  have e2 : (hi + 1) * (2 * n) = 2 * (hi * n) + 2 * n := by grind
  refine ⟨Int.le_ediv_of_mul_le (by omega) (by omega), ?_⟩
  have := Int.ediv_lt_of_lt_mul (a := 2 * m + n) (b := hi + 1) (c := 2 * n) (by omega) (by omega)
  omega
theorem betw_in {n u v k lo hi : Int} (hn : 1 ≤ n) (hk : 0 ≤ k) (hkn : k ≤ n) (u1 : lo ≤ u) (u2 : u ≤ hi) (v1 : lo ≤ v) (v2 : v ≤ hi) : lo ≤ betw n u v k ∧ betw n u v k ≤ hi := by
  unfold betw
  have a1 := Int.mul_le_mul_of_nonneg_right u1 (show 0 ≤ n - k by omega)
  have a2 := Int.mul_le_mul_of_nonneg_right u2 (show 0 ≤ n - k by omega)
  have b1 := Int.mul_le_mul_of_nonneg_right v1 hk
  have b2 := Int.mul_le_mul_of_nonneg_right v2 hk
  have e1 : lo * (n - k) + lo * k = lo * n := by grind
  have e2 : hi * (n - k) + hi * k = hi * n := by grind
  exact rnd_btw hn (by omega) (by omega)
theorem ckFls_all {t : Int} : ∀ {l : List Flw} {i : Nat}, (ckFls t i l).2 = 0 → ∀ x ∈ l, flE t x = 0
  | [], _, _, x, hx => by cases hx
  | y :: l, i, h, x, hx => by
    unfold ckFls at h
    by_cases h1 : flE t y ≠ 0
    · rw [if_pos h1] at h; exact absurd h h1
    · rw [if_neg h1] at h
      rcases List.mem_cons.1 hx with rfl | hx
      · exact Decidable.not_not.1 h1
      · exact ckFls_all h x hx
theorem fl_pts {t : Int} {x : Flw} (h : flE t x = 0) : ∀ q ∈ ptsL x, spotE q.1 = 0 ∧ plateE q.1.2 t = 0 := by
  rw [flE_is] at h
  by_cases h0 : flwE x = 0
  · rw [if_neg (fun q => q h0)] at h
    have hok := flw_ok h0
    by_cases h1 : inR 1 x.at_.2 (t - 1) = false ∨ (x.kd = 1 ∧ inR 1 x.to_.2 (t - 1) = false)
    · rw [if_pos h1] at h; cases h
    · have ha : inR 1 x.at_.2 (t - 1) = true := by
        cases q : inR 1 x.at_.2 (t - 1) with
        | true => rfl
        | false => exact absurd (.inl q) h1
      have hb : x.kd = 1 → inR 1 x.to_.2 (t - 1) = true := fun hk => by
        cases q : inR 1 x.to_.2 (t - 1) with
        | true => rfl
        | false => exact absurd (.inr ⟨hk, q⟩) h1
      simp [inR] at ha
      intro q hq
      unfold ptsL at hq
      by_cases hk : x.kd = 0
      · rw [if_pos hk] at hq
        rw [List.mem_singleton.1 hq]
        have := hok.a1
        have := hok.a2
        exact ⟨spot_ok.2 (by simp only; omega), plate_ok.2 (by simp only; omega)⟩
      · rw [if_neg hk] at hq
        obtain ⟨⟨t1, t2⟩, ⟨t3, t4⟩, ⟨n1, n2⟩, _⟩ := hok.pl hk
        have hk1 : x.kd = 1 := by have := hok.kd; omega
        have hb := hb hk1
        simp [inR] at hb
        unfold ptsTo at hq
        obtain ⟨i, hi, rfl⟩ := List.mem_map.1 hq
        have hi := List.mem_range.1 hi
        obtain ⟨a1, a2⟩ := hok.a1
        obtain ⟨a3, a4⟩ := hok.a2
        have g1 := betw_in (n := x.pc) (u := x.at_.1) (v := x.to_.1) (k := (i : Int)) (lo := -100000) (hi := 100000) n1 (by omega) (by omega) a1 a2 t1 t2
        have g2 := betw_in (n := x.pc) (u := x.at_.2) (v := x.to_.2) (k := (i : Int)) (lo := -100000) (hi := 100000) n1 (by omega) (by omega) a3 a4 t3 t4
        have g3 := betw_in (n := x.pc) (u := x.at_.2) (v := x.to_.2) (k := (i : Int)) (lo := 1) (hi := t - 1) n1 (by omega) (by omega) (by omega) (by omega) (by omega) (by omega)
        unfold ptK
        exact ⟨spot_ok.2 (by simp only; omega), plate_ok.2 (by simp only; omega)⟩
  · rw [if_pos h0] at h; exact absurd h h0
theorem spc_pts {s : Spc} (h : (ckSpc s).2 = 0) : ∀ x ∈ s.fl, ∀ q ∈ ptsL x, spotE q.1 = 0 ∧ plateE q.1.2 s.ar.ou.t = 0 := by
  unfold ckSpc at h
  by_cases h1 : (ckArr s.ar).2 ≠ 0
  · rw [if_pos h1] at h; exact absurd h h1
  · rw [if_neg h1] at h
    by_cases h2 : spcE0 s ≠ 0
    · rw [if_pos h2] at h; exact absurd h h2
    · rw [if_neg h2] at h
      exact fun x hx => fl_pts (ckFls_all h x hx)
theorem all_okM (S : List Int) : S.all (okM 2047) = !(S.any bigB) := by
  induction S with
  | nil => rfl
  | cons x S ih =>
    rw [List.all_cons, List.any_cons, ih, Bool.not_or]
    congr 1
    unfold okM bigB inR
    by_cases q : max x (-x) ≤ 2047
    · rw [decide_eq_true q]; simp; omega
    · rw [decide_eq_false q]; simp; omega
theorem bck_len {S : List Int} (h : (S.map fv).length = 64) : (bckR S 2047).1.length = 64 := by
  unfold bckR
  split
  · exact h
  · rfl
theorem ptA_at {s : Spc} {i : Nat} {y : Flw} (hx : s.fl[i]? = some y) {k : Nat} {q : (Int × Int) × Int} (hq : (ptsL y)[k]? = some q) : ptA (ptsS s) ((ptsF s i).length + k) = q := by
  obtain ⟨hlt, he⟩ := List.getElem?_eq_some_iff.1 hx
  have e : ptsS s = ptsF s i ++ (ptsL y ++ (s.fl.drop (i + 1)).flatMap ptsL) := by
    unfold ptsS ptsF
    conv => lhs; rw [← List.take_append_drop i s.fl]
    rw [List.flatMap_append, List.drop_eq_getElem_cons hlt, he, List.flatMap_cons]
  have hk := (List.getElem?_eq_some_iff.1 hq).1
  unfold ptA
  rw [e, List.getD_eq_getElem?_getD, List.getElem?_append_right (by omega), Nat.add_sub_cancel_left, List.getElem?_append_left hk, hq]; rfl
set_option maxRecDepth 100000 in
theorem rtraceOf_p (s : Spc) (pr : Int × Int) (h0 : (ckSpc s).2 = 0) (hpk : (0 ≤ pr.1 ∧ pr.1 < s.ar.el.length) ∧ 0 ≤ pr.2 ∧ pr.2 < s.ar.el.length) : PC Tryz.prog 15 [.agg (spcC s), .agg (shC pr)] (.tup [.agg (trcR s (ptsS s) pr).1, .v (.int .i64 ((trcR s (ptsS s) pr).2))]) := by
  have hsp := spc_ok h0
  have hok := hsp.ar
  have hp1 := hsp.p1
  have hp2 := hsp.p2
  have hf1 := hsp.f1
  obtain ⟨hP1, hP2⟩ := ptsS_in hsp
  have hpts := spc_pts h0
  have hend : (ptsF s s.fl.length).length = (ptsS s).length := by unfold ptsF ptsS; rw [List.take_length]
  have hfl : ((smT s.ar s.pl pr (ptsS s) (ptsS s).length).map fv).length = 64 := by rw [List.length_map, smT_len]
  have hao := all_okM (smT s.ar s.pl pr (ptsS s) (ptsS s).length)
  refine pc_of_awpN Tryz.func15 rfl Tryz.ntmps15 (rs := [.cell 4 38, .tmp 5]) Tryz.results15 (by simp) fun w0 hmine hrnd hpn => ?_
  refine awp_seq ?_
  refine awp_region 2 mixed (by kernel_rfl) ?_
  refine rg_q (q_box rfl (by exact .inr ⟨_, rfl⟩)) ?_
  refine rg_q (q_box rfl (by exact .inr ⟨_, rfl⟩)) ?_
  refine rg_nil ?_
  refine aops_alloc zr38 rfl rfl rfl ?_
  refine aops_q rfl (q_assign (x := .d (.v _)) rfl) ?_
  refine aops_nil ?_
  change Awp _ _ _ _ _
  refine awp_seq ?_
  refine awp_region 0 mixed (by kernel_rfl) ?_
  refine rg_nil ?_
  refine aops_alloc zr112 rfl rfl rfl ?_
  refine aops_nil ?_
  change Awp _ _ _ _ _
  refine awp_seq ?_
  refine awp_seq ?_
  refine awp_region 1 mixed (by kernel_rfl) ?_
  refine rg_q (q_assign (x := .d (.v _)) rfl) ?_
  refine rg_nil ?_
  refine aops_nil ?_
  change Awp _ _ _ _ _
  refine awp_block ?_
  refine awp_loopH [7, 8, 9, 12, 13, 14, 15, 16, 17, 18, 19, 20, 21, 22, 23, 24, 25, 26, 27, 28, 29, 30, 31, 32, 33, 34, 35, 36, 37, 38, 39, 40, 41, 42, 43, 44, 45, 46, 47, 48] [6] (α := Nat) (fun i => [(7, T.i (i : Int))]) (fun i => [(6, .box ((smT s.ar s.pl pr (ptsS s) (ptsF s i).length).map iv))]) (fun i => i ≤ s.fl.length) (fun i => s.fl.length - i) 0 (Nat.zero_le _) ?_ ?_
  · exact le_head (ms := [6]) (by repeat (exact Out.refl _)) ⟨(by rfl), trivial⟩ ⟨(by rfl), trivial⟩ rfl rfl rfl rfl
  ·
    intro i hi
    refine awp_seq ?_
    refine awp_seq ?_
    refine awp_region 5 mixed (by kernel_rfl) ?_
    refine rg_q (q_move (x := .d (.v _)) rfl) ?_
    refine rg_q (q_fieldAddr fld32_2 rfl) ?_
    refine rg_q (q_load sz30 rfl rfl) ?_
    refine rg_q (q_len isl30 rfl (by exact len_map _ _)) ?_
    refine rg_q (q_lss rfl rfl) ?_
    refine rg_nil ?_
    refine aops_nil ?_
    change Awp _ _ _ _ _
    refine awp_len (t := 14) rfl (fun hl14 => ?_)
    (try simp only [List.length_map] at hl14)
    refine awp_cond rfl (fun hc3 => ?_) (fun hc3 => ?_)
    ·
      (try simp only [decide_eq_true_eq, decide_eq_false_iff_not, Bool.and_eq_true, Bool.or_eq_true, Bool.and_eq_false_iff, Bool.or_eq_false_iff, Bool.not_eq_true', Bool.not_eq_false', Bool.not_true, Bool.not_false, bif_and, bif_or, Bool.not_not, ne_eq, Decidable.not_not, not_true_eq_false, not_false_eq_true, Int.not_le, Int.not_lt] at hc3)
      have hlt : i < s.fl.length := by omega
      obtain ⟨y, hx⟩ : ∃ y, s.fl[i]? = some y := ⟨_, List.getElem?_eq_getElem hlt⟩
      have hym := List.mem_of_getElem? hx
      have hoky := hsp.fl y hym
      have hsuc : (ptsF s i).length + (ptsL y).length = (ptsF s (i + 1)).length := by rw [ptsF_succ hx, List.length_append]
      have hl21 := ptsL_len hoky
      have hle := ptsF_len hsp.fl i (by omega)
      refine awp_skip ?_
      change Awp _ _ _ _ _
      refine awp_seq ?_
      refine awp_block ?_
      refine awp_seq ?_
      refine awp_region 7 mixed (by kernel_rfl) ?_
      refine rg_q (q_fieldAddr fld32_2 rfl) ?_
      refine rg_q (q_load sz30 rfl rfl) ?_
      refine rg_q (q_move (x := .d (.v _)) rfl) ?_
      refine rg_q (q_indexAddr sl30 rfl rfl (by omega) (map_at (k := i) (by omega) hx)) ?_
      refine rg_q (q_loadA (ds := [_, _, _, _, _, _, _, _]) sz95 rfl rfl rfl) ?_
      refine rg_q (q_call en50 (.cons rfl .nil) rfl (rpointsOf_p y hoky)) ?_
      refine rg_q (q_assign (x := .d (.sl _ _)) rfl) ?_
      refine rg_nil ?_
      refine aops_nil ?_
      change Awp _ _ _ _ _
      refine awp_seq ?_
      refine awp_region 1 mixed (by kernel_rfl) ?_
      refine rg_q (q_assign (x := .d (.v _)) rfl) ?_
      refine rg_nil ?_
      refine aops_nil ?_
      change Awp _ _ _ _ _
      refine awp_block ?_
      refine awp_loopH [9, 25, 26, 27, 28, 29, 30, 31, 32, 33, 34, 35, 36, 37, 38, 39, 40, 41, 42, 43, 44, 45, 46, 47, 48] [6] (α := Nat) (fun k => [(9, T.i (k : Int))]) (fun k => [(6, .box ((smT s.ar s.pl pr (ptsS s) ((ptsF s i).length + k)).map iv))]) (fun k => k ≤ (ptsL y).length) (fun k => (ptsL y).length - k) 0 (Nat.zero_le _) ?_ ?_
      · exact le_head (ms := [6]) (by repeat (exact Out.refl _)) ⟨(by rfl), trivial⟩ ⟨(by rfl), trivial⟩ rfl rfl rfl rfl
      ·
        intro k hk
        refine awp_seq ?_
        refine awp_seq ?_
        refine awp_region 4 mixed (by kernel_rfl) ?_
        refine rg_q (q_move (x := .d (.v _)) rfl) ?_
        refine rg_q (q_move (x := .d (.sl _ _)) rfl) ?_
        refine rg_q (q_len isl91 rfl (by exact len_map _ _)) ?_
        refine rg_q (q_lss rfl rfl) ?_
        refine rg_nil ?_
        refine aops_nil ?_
        change Awp _ _ _ _ _
        refine awp_len (t := 26) rfl (fun hl26 => ?_)
        (try simp only [List.length_map] at hl26)
        refine awp_cond rfl (fun hc7 => ?_) (fun hc7 => ?_)
        ·
          (try simp only [decide_eq_true_eq, decide_eq_false_iff_not, Bool.and_eq_true, Bool.or_eq_true, Bool.and_eq_false_iff, Bool.or_eq_false_iff, Bool.not_eq_true', Bool.not_eq_false', Bool.not_true, Bool.not_false, bif_and, bif_or, Bool.not_not, ne_eq, Decidable.not_not, not_true_eq_false, not_false_eq_true, Int.not_le, Int.not_lt] at hc7)
          have hlk : k < (ptsL y).length := by omega
          obtain ⟨q, hq⟩ : ∃ q, (ptsL y)[k]? = some q := ⟨_, List.getElem?_eq_getElem hlk⟩
          obtain ⟨hqs, hqp⟩ := hpts y hym q (List.mem_of_getElem? hq)
          have hqa := pts_amp hoky q (List.mem_of_getElem? hq)
          have hpa := ptA_at hx hq
          have hin := smT_in (a := s.ar) (pr := pr) hp1 hp2 hP2 ((ptsF s i).length + k)
          have hcl : ((smT s.ar s.pl pr (ptsS s) ((ptsF s i).length + k + 1)).map iv).length = 64 := by rw [List.length_map, smT_len]
          have hcl0 : ((smT s.ar s.pl pr (ptsS s) ((ptsF s i).length + k)).map iv).length = 64 := by rw [List.length_map, smT_len]
          have hst : adT (smT s.ar s.pl pr (ptsS s) ((ptsF s i).length + k)) s.pl q.2 (smpI s.ar q.1 pr) s.pl.length = smT s.ar s.pl pr (ptsS s) ((ptsF s i).length + k + 1) := by rw [← hpa]; rfl
          have hst2 : (adT (smT s.ar s.pl pr (ptsS s) ((ptsF s i).length + k)) s.pl q.2 (smpI s.ar q.1 pr) s.pl.length).map iv = (smT s.ar s.pl pr (ptsS s) ((ptsF s i).length + (k + 1))).map iv := by rw [hst]; rfl
          refine awp_skip ?_
          change Awp _ _ _ _ _
          refine awp_seq ?_
          refine awp_block ?_
          refine awp_region 18 mixed (by kernel_rfl) ?_
          refine rg_q (q_load_refA (ds := (smT s.ar s.pl pr (ptsS s) ((ptsF s i).length + k)).map iv) sz112 rfl rfl (by rw [List.drop_zero]; exact List.take_of_length_le (by rw [List.length_map, smT_len]; exact Nat.le_refl _)) (by rw [List.length_map, smT_len])) ?_
          refine rg_q (q_fieldAddr fld32_1 rfl) ?_
          refine rg_q (q_load sz29 rfl rfl) ?_
          refine rg_q (q_move (x := .d (.sl _ _)) rfl) ?_
          refine rg_q (q_move (x := .d (.v _)) rfl) ?_
          refine rg_q (q_indexAddr sl91 rfl rfl (by omega) (map_at (k := k) (by omega) hq)) ?_
          refine rg_q (q_fieldAddr fld98_1 rfl) ?_
          refine rg_q (q_load sz3 rfl rfl) ?_
          refine rg_q (q_fieldAddr fld32_0 rfl) ?_
          refine rg_q (q_loadA (ds := [_, _, _, _, _, _, _, _, _, _, _]) sz28 rfl rfl rfl) ?_
          refine rg_q (q_move (x := .d (.sl _ _)) rfl) ?_
          refine rg_q (q_move (x := .d (.v _)) rfl) ?_
          refine rg_q (q_indexAddr sl91 rfl rfl (by omega) (map_at (k := k) (by omega) hq)) ?_
          refine rg_q (q_fieldAddr fld98_0 rfl) ?_
          refine rg_q (q_loadA (ds := [_, _]) sz50 rfl rfl rfl) ?_
          refine rg_q (q_loadA (ds := [_, _]) sz33 rfl rfl rfl) ?_
          refine rg_q (q_call en32 (.cons rfl (.cons rfl (.cons rfl .nil))) rfl (rsampleOf_p s.ar q.1 pr hok hpk hqs hqp)) ?_
          refine rg_q (q_call en51 (.cons rfl (.cons rfl (.cons rfl (.cons rfl .nil)))) rfl (rpulsed_p (smT s.ar s.pl pr (ptsS s) ((ptsF s i).length + k)) s.pl q.2 (smpI s.ar q.1 pr) (1600000 * (((ptsF s i).length + k : Nat) : Int)) (smT_len _) hin (by omega) (by omega) (amp_mul hqa hp2) (smp_in hok _ _))) ?_
          refine rg_nil ?_
          refine aops_store (cs' := (adT (smT s.ar s.pl pr (ptsS s) ((ptsF s i).length + k)) s.pl q.2 (smpI s.ar q.1 pr) s.pl.length).map iv) sz112 rfl rfl (by exact .inr ⟨_, rfl⟩) (by show ((adT _ _ _ _ _).map iv).length = _; rw [hst]; exact hcl) rfl (by rw [hcl0]; decide) (setCs_all (by show ((adT _ _ _ _ _).map iv).length = _; rw [hst, hcl, hcl0])) ?_
          refine aops_nil ?_
          change Awp _ _ _ _ _
          refine awp_region 3 mixed (by kernel_rfl) ?_
          refine rg_q (q_move (x := .d (.v _)) rfl) ?_
          refine rg_q (q_add rfl rfl (In64.mk (by omega) (by omega))) ?_
          refine rg_q (q_assign (x := .d (.v _)) rfl) ?_
          refine rg_nil ?_
          refine aops_nil ?_
          refine ⟨k + 1, by omega, by omega, ?_⟩
          exact le_head (ms := [6]) (by repeat (first | exact Out.head rfl rfl | (refine Out.put ?_ rfl) | (refine Out.site ?_ rfl))) ⟨(by rfl), trivial⟩ ⟨(by (show Site.box _ = Site.box _; rw [hst2])), trivial⟩ rfl rfl rfl rfl
        ·
          (try simp only [decide_eq_true_eq, decide_eq_false_iff_not, Bool.and_eq_true, Bool.or_eq_true, Bool.and_eq_false_iff, Bool.or_eq_false_iff, Bool.not_eq_true', Bool.not_eq_false', Bool.not_true, Bool.not_false, bif_and, bif_or, Bool.not_not, ne_eq, Decidable.not_not, not_true_eq_false, not_false_eq_true, Int.not_le, Int.not_lt] at hc7)
          have hkn : k = (ptsL y).length := by omega
          subst hkn
          rw [hsuc] at *
          refine awp_exit ?_
          change Awp _ _ _ _ _
          refine awp_region 3 mixed (by kernel_rfl) ?_
          refine rg_q (q_move (x := .d (.v _)) rfl) ?_
          refine rg_q (q_add rfl rfl (In64.mk (by omega) (by omega))) ?_
          refine rg_q (q_assign (x := .d (.v _)) rfl) ?_
          refine rg_nil ?_
          refine aops_nil ?_
          refine ⟨i + 1, by omega, by omega, ?_⟩
          exact le_head (ms := [6]) (by repeat (first | exact Out.head rfl rfl | (refine Out.put ?_ rfl) | (refine Out.headIn ?_ rfl rfl rfl))) ⟨(by rfl), trivial⟩ ⟨(by rfl), trivial⟩ rfl rfl rfl rfl
    ·
      (try simp only [decide_eq_true_eq, decide_eq_false_iff_not, Bool.and_eq_true, Bool.or_eq_true, Bool.and_eq_false_iff, Bool.or_eq_false_iff, Bool.not_eq_true', Bool.not_eq_false', Bool.not_true, Bool.not_false, bif_and, bif_or, Bool.not_not, ne_eq, Decidable.not_not, not_true_eq_false, not_false_eq_true, Int.not_le, Int.not_lt] at hc3)
      have hkn : i = s.fl.length := by omega
      subst hkn
      rw [hend] at *
      refine awp_exit ?_
      change Awp _ _ _ _ _
      refine awp_seq ?_
      refine awp_region 5 mixed (by kernel_rfl) ?_
      refine rg_q (q_load_refA (ds := (smT s.ar s.pl pr (ptsS s) (ptsS s).length).map iv) sz112 rfl rfl (by rw [List.drop_zero]; exact List.take_of_length_le (by rw [List.length_map, smT_len]; exact Nat.le_refl _)) (by rw [List.length_map, smT_len])) ?_
      refine rg_q (q_call en52 (.cons rfl (.cons rfl .nil)) rfl (rback_p (smT s.ar s.pl pr (ptsS s) (ptsS s).length) 2047 (smT_len _) (fun v hv => by have := smT_in (a := s.ar) (pr := pr) hp1 hp2 hP2 (ptsS s).length v hv; omega))) ?_
      refine rg_q (q_move (x := .d (.tup _)) rfl) ?_
      refine rg_q (q_extract rfl rfl) ?_
      refine rg_q (q_extract rfl rfl) ?_
      refine rg_nil ?_
      refine aops_alloc zr38 rfl rfl rfl ?_
      refine aops_store (cs' := (bckR (smT s.ar s.pl pr (ptsS s) (ptsS s).length) 2047).1) sz38 rfl rfl (by exact .inr ⟨_, rfl⟩) (bck_len hfl) rfl (Nat.le_of_ble_eq_true rfl) (setCs_all (bck_len hfl)) ?_
      refine aops_q rfl (q_assign (x := .d (.v _)) rfl) ?_
      refine aops_nil ?_
      change Awp _ _ _ _ _
      refine awp_seq ?_
      refine awp_seq ?_
      refine awp_region 2 mixed (by kernel_rfl) ?_
      refine rg_q (q_move (x := .d (.v _)) rfl) ?_
      refine rg_q (q_not rfl) ?_
      refine rg_nil ?_
      refine aops_nil ?_
      change Awp _ _ _ _ _
      refine awp_cond rfl (fun hc11 => ?_) (fun hc11 => ?_)
      ·
        (try simp only [decide_eq_true_eq, decide_eq_false_iff_not, Bool.and_eq_true, Bool.or_eq_true, Bool.and_eq_false_iff, Bool.or_eq_false_iff, Bool.not_eq_true', Bool.not_eq_false', Bool.not_true, Bool.not_false, bif_and, bif_or, Bool.not_not, ne_eq, Decidable.not_not, not_true_eq_false, not_false_eq_true, Int.not_le, Int.not_lt] at hc11)
        have hz : trcR s (ptsS s) pr = (z64, 8) := by
          unfold trcR
          rw [if_pos]
          cases hb : (smT s.ar s.pl pr (ptsS s) (ptsS s).length).any bigB with
          | true => rfl
          | false => unfold bckR at hc11; rw [hao, hb] at hc11; simp at hc11
        refine awp_seq ?_
        refine awp_region 1 mixed (by kernel_rfl) ?_
        refine rg_q (q_buildA ar38 zr38 rfl .nil trivial rfl) ?_
        refine rg_nil ?_
        refine aops_store sz38 rfl rfl (by exact .inr ⟨_, rfl⟩) rfl rfl (by decide) rfl ?_
        refine aops_q rfl (q_assign (x := .d (.v _)) rfl) ?_
        refine aops_nil ?_
        change Awp _ _ _ _ _
        refine awp_ret ?_
        refine ⟨_, (.cons (.cellA rfl rfl sz38 (by rfl)) (.cons (.tmp (by exact .d _)) .nil)), ?_⟩
        rw [hz]; rfl
      ·
        (try simp only [decide_eq_true_eq, decide_eq_false_iff_not, Bool.and_eq_true, Bool.or_eq_true, Bool.and_eq_false_iff, Bool.or_eq_false_iff, Bool.not_eq_true', Bool.not_eq_false', Bool.not_true, Bool.not_false, bif_and, bif_or, Bool.not_not, ne_eq, Decidable.not_not, not_true_eq_false, not_false_eq_true, Int.not_le, Int.not_lt] at hc11)
        have hb : (smT s.ar s.pl pr (ptsS s) (ptsS s).length).any bigB = false := by
          cases hb : (smT s.ar s.pl pr (ptsS s) (ptsS s).length).any bigB with
          | false => rfl
          | true => unfold bckR at hc11; rw [hao, hb] at hc11; simp at hc11
        have hz : trcR s (ptsS s) pr = ((smT s.ar s.pl pr (ptsS s) (ptsS s).length).map fv, 0) := by
          unfold trcR
          rw [if_neg (by rw [hb]; decide)]
        have hbk : bckR (smT s.ar s.pl pr (ptsS s) (ptsS s).length) 2047 = ((smT s.ar s.pl pr (ptsS s) (ptsS s).length).map fv, true) := by unfold bckR; rw [hao, hb]; rfl
        rw [hbk]
        refine awp_skip ?_
        change Awp _ _ _ _ _
        refine awp_seq ?_
        refine awp_region 1 mixed (by kernel_rfl) ?_
        refine rg_q (q_load_refA (ds := (smT s.ar s.pl pr (ptsS s) (ptsS s).length).map fv) sz38 rfl rfl (by show (List.drop 0 ((smT s.ar s.pl pr (ptsS s) (ptsS s).length).map fv)).take 64 = _; rw [List.drop_zero]; exact List.take_of_length_le (by rw [hfl]; exact Nat.le_refl _)) hfl) ?_
        refine rg_nil ?_
        refine aops_store (cs' := (smT s.ar s.pl pr (ptsS s) (ptsS s).length).map fv) sz38 rfl rfl (by exact .inr ⟨_, rfl⟩) hfl rfl (Nat.le_of_ble_eq_true rfl) (setCs_all hfl) ?_
        refine aops_q rfl (q_assign (x := .d (.v _)) rfl) ?_
        refine aops_nil ?_
        change Awp _ _ _ _ _
        refine awp_ret ?_
        refine ⟨_, (.cons (.cellA rfl rfl sz38 (by exact hfl)) (.cons (.tmp (by exact .d _)) .nil)), ?_⟩
        rw [hz]; rfl
end Go.Proofs.YtblbnagdhcpnoaaGreat.Am.M
