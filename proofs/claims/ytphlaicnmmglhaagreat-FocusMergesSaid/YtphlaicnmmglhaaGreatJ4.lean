/- Contracts over the abstract machine, joined. Conditions: none. -/
import Derived.Test.YtphlaicnmmglhaaGreatJ3
import Derived.Test.YtphlaicnmmglhaaGreatJ2
import Derived.Test.YtphlaicnmmglhaaGreatJ1
import Derived.Test.YtphlaicnmmglhaaGreatAmF
set_option linter.unusedVariables false
set_option linter.unusedSimpArgs false
-- mini
namespace Go.Proofs.YtphlaicnmmglhaaGreat.Am.M
open Go

def oneT : Tsk := ⟨oneS.ar, 1, exB, ⟨0, 400, 1, 1, 50⟩⟩
theorem eq56_low (a0 a1 b0 b1 : Int) (w : World) : (Op.equalIn (9998 + 1) 56 (.agg #[iW a0, iW a1]) (.agg #[iW b0, iW b1])).run Tryz.prog w = .ok (decide ([a0, a1] = [b0, b1])) w := by
  have hf : (Tryz.prog.fieldsOf 56).toList = [⟨ "Lo", 3, 0, false, "", "", 0⟩, ⟨ "Hi", 3, 1, false, "", "", 8⟩] := by kernel_rfl
  rw [show (9998 + 1 : Nat) = 9997 + 1 + 1 from rfl, run_equalIn_struct w (9997 + 1) 56 _ _ (by kernel_rfl) (by kernel_rfl), hf]
  have u3 := Tryz.underlying3
  simp [Op.eqFields, part, isAgg, run_underlying u3, iW, run_equalIn_int, u3, Result.andThen]
  (repeat' split) <;> simp_all
theorem eqi57 : EqI Tryz.prog 57 4 := by
  intro xs ys hx hy w
  match xs, ys, hx, hy with
  | [a0, a1, a2, a3], [b0, b1, b2, b3], _, _ =>
    refine ⟨fun x y => run_eqGuard_agg w .eql 57 x y _ _ (by kernel_rfl), fun x y => run_eqGuard_agg w .neq 57 x y _ _ (by kernel_rfl), ?_⟩
    obtain ⟨i, hi, _⟩ := arB_info ar57
    have h1 := eq56_low a0 a1 b0 b1 w
    have h2 := eq56_low a2 a3 b2 b3 w
    simp only [iW] at h1 h2
    rw [show (10000 : Nat) = 9998 + 1 + 1 from rfl, run_equalIn_array w (9998 + 1) _ _ (arB_under ar57) hi, show Tryz.prog.cellsOf 56 = 2 from by kernel_rfl]
    simp [Op.eqItems, List.range, List.range.loop, part, isAgg, iW, Result.andThen, h1, h2]
    (repeat' split) <;> simp_all
set_option maxRecDepth 100000 in
theorem one5_p  : PC Tryz.prog 82 [] (.agg (tskC oneT)) := by
  refine pc_of_awpN Tryz.func82 rfl Tryz.ntmps82 (rs := [.cell 0 37]) Tryz.results82 (by simp) fun w0 hmine hrnd hpn => ?_
  refine awp_seq ?_
  refine awp_region 0 mixed (by kernel_rfl) ?_
  refine rg_nil ?_
  refine aops_alloc zr37 rfl rfl rfl ?_
  refine aops_nil ?_
  change Awp _ _ _ _ _
  refine awp_seq ?_
  refine awp_region 0 mixed (by kernel_rfl) ?_
  refine rg_nil ?_
  refine aops_make sl29 zr117 by117 rfl rfl rfl rfl (by (try simp only [List.length_map]); omega) (by (try simp only [List.length_map]); omega) rfl rfl ?_
  refine aops_q rfl (q_buildR (u := [.v (.int .i64 1)]) (v := []) pl31 zr31 rfl (by exact .one rfl rfl (by exact .one rfl rfl .nil)) (by exact ⟨⟨rfl, by decide⟩, ⟨rfl, by decide⟩, trivial⟩) (by rfl)) ?_
  refine aops_alloc zr31 rfl rfl rfl ?_
  refine aops_le (le_tbox (k := 1) (ts := [_, _]) rfl rfl) ?_
  refine aops_storeAg sz31 rfl rfl rfl rfl rfl rfl rfl ?_
  refine aops_nil ?_
  change Awp _ _ _ _ _
  refine awp_seq ?_
  refine awp_regionL 4 2 [2, 3] mixed (by kernel_rfl) ?_
  refine rg_q (q_fieldAddr_ref fld31_1 rfl) ?_
  refine rg_q (q_load_tb (x := .rs _) sz29 rfl rfl rfl) ?_
  refine rg_q (q_fieldAddr_ref fld31_1 rfl) ?_
  refine rg_q (q_load_tb (x := .rs _) sz29 rfl rfl rfl) ?_
  refine rg_nil ?_
  refine late_q (q_indexAddr_rs sl29 rfl rfl rfl (by omega) (by (simp; done))) ?_ ?_
  · refine fl_cons rfl rfl rfl (c_q (q_fieldAddr_ref fld31_1 rfl)) ?_
    refine fl_cons rfl rfl rfl (c_q (q_load_tb (x := .rs _) sz29 rfl rfl rfl)) ?_
    exact fl_nil
  refine late_set (c_storeRow sz117 rfl rfl (by exact .inl rfl) rfl rfl (i := 2) (j := 0) rfl rfl (by decide) rfl) ?_ ?_
  · refine fl_cons rfl rfl rfl (c_q (q_fieldAddr_ref fld31_1 rfl)) ?_
    refine fl_cons rfl rfl rfl (c_q (q_load_tb (x := .rs _) sz29 rfl rfl rfl)) ?_
    exact fl_nil
  refine late_nil ?_
  refine aops_q rfl (q_indexAddr_rs sl29 rfl rfl rfl (by omega) (by (simp; done))) ?_
  refine aops_store_row sz117 rfl rfl (by exact .inl rfl) rfl rfl (i := 3) (j := 0) rfl rfl (by decide) rfl ?_
  refine aops_nil ?_
  change Awp _ _ _ _ _
  refine awp_seq ?_
  refine Awp.le (le_freezeTB 1 2 1 rfl rfl rfl rfl hmine) ?_
  refine Awp.le (le_boxT 1 (mtxC 1 exB) rfl rfl (by intro j d h; match j, h with | 0, h => cases h; rfl | 1, h => cases h; rfl)) ?_
  refine awp_region 6 mixed (by kernel_rfl) ?_
  refine rg_q (q_call en151 .nil rfl (one_p)) ?_
  refine rg_q (q_fieldA fd130_0 sz28 rfl rfl rfl) ?_
  refine rg_q (q_load_refA (ds := [_, _]) sz31 rfl rfl rfl rfl) ?_
  refine rg_q (q_build (cs := [_, _]) pl33 zr33 rfl (.cons rfl (by exact .inl rfl) (.cons rfl (by exact .inl rfl) .nil)) ⟨⟨rfl, by decide⟩, ⟨rfl, by decide⟩, trivial⟩ rfl) ?_
  refine rg_q (q_build (cs := [_, _, _, _, _]) pl35 zr35 rfl (.cons rfl (by exact .inr ⟨_, rfl⟩) (.cons rfl (by exact .inl rfl) (.cons rfl (by exact .inl rfl) (.cons rfl (by exact .inl rfl) .nil)))) ⟨⟨rfl, by decide⟩, ⟨rfl, by decide⟩, ⟨rfl, by decide⟩, ⟨rfl, by decide⟩, trivial⟩ rfl) ?_
  refine rg_q (q_build pl37 zr37 rfl (.cons rfl (by exact .inr ⟨_, rfl⟩) (.cons rfl (by exact .inr ⟨_, rfl⟩) (.cons rfl (by exact .inr ⟨_, rfl⟩) .nil))) ⟨⟨rfl, by decide⟩, ⟨rfl, by decide⟩, ⟨rfl, by decide⟩, trivial⟩ rfl) ?_
  refine rg_nil ?_
  refine aops_store sz37 rfl rfl (by exact .inr ⟨_, rfl⟩) rfl rfl (by decide) rfl ?_
  refine aops_nil ?_
  change Awp _ _ _ _ _
  refine awp_ret ?_
  refine ⟨_, (.cons (.cellA rfl rfl sz37 rfl) .nil), ?_⟩
  rfl

def sbB (a b c d : Nat) : Bool := bif decide ((a : Int) = (c : Int)) then decide ((b : Int) = (d : Int)) else false
set_option maxRecDepth 100000 in
theorem sameBits_p (a b c d : Nat) : PC Tryz.prog 26 [.v (.complex .f64 a b), .v (.complex .f64 c d)] (.v (.bool (sbB a b c d))) := by
 refine pc_of_awp Tryz.func26 rfl Tryz.ntmps26 (rs := [.tmp 4]) Tryz.results26 (by simp) fun w0 => ?_
 refine awp_seq ?_
 refine awp_region 1 mixed (by kernel_rfl) ?_
 refine rg_q (q_a rfl) ?_
 refine rs (awp_region 17 mixed (by kernel_rfl) ?_)
 refine rg_q (q_m rfl) ?_
 refine rg_q (q_real rfl) ?_
 refine rg_q (q_ext1 (e := Extern.MathFloatBits.float64bits) Tryz.func98 (by kernel_rfl) (by kernel_rfl) (by kernel_rfl) (by kernel_rfl) rfl rfl (fun w => rfl) rfl) ?_
 refine rg_q (q_m rfl) ?_
 refine rg_q (q_real rfl) ?_
 refine rg_q (q_ext1 (e := Extern.MathFloatBits.float64bits) Tryz.func98 (by kernel_rfl) (by kernel_rfl) (by kernel_rfl) (by kernel_rfl) rfl rfl (fun w => rfl) rfl) ?_
 refine rg_q (q_eql rfl rfl) (rg_q (q_m rfl) ?_)
 refine rg_g rfl rfl (fun hG => (q_m rfl)) ?_
 refine rg_g rfl rfl (fun hG => (q_imag rfl)) ?_
 refine rg_g rfl rfl (fun hG => (q_ext1 (e := Extern.MathFloatBits.float64bits) Tryz.func98 (by kernel_rfl) (by kernel_rfl) (by kernel_rfl) (by kernel_rfl) rfl rfl (fun w => rfl) rfl)) ?_
 refine rg_g rfl rfl (fun hG => (q_m rfl)) ?_
 refine rg_g rfl rfl (fun hG => (q_imag rfl)) ?_
 refine rg_g rfl rfl (fun hG => (q_ext1 (e := Extern.MathFloatBits.float64bits) Tryz.func98 (by kernel_rfl) (by kernel_rfl) (by kernel_rfl) (by kernel_rfl) rfl rfl (fun w => rfl) rfl)) ?_
 refine rg_g rfl rfl (fun hG => (q_eql rfl rfl)) ?_
 refine rg_pick rfl rfl rfl rfl rfl rfl ?_
 refine rg_q (q_a rfl) ?_
 refine rn ?_
 change Awp _ _ _ _ _
 refine awp_ret ?_
 refine ⟨_, (.cons (.tmp (by exact .d _)) .nil), ?_⟩
 rfl
set_option maxRecDepth 100000 in
theorem ints5_p (l m : List Int) : PC Tryz.prog 49 [.sl 1 (l.map iC), .sl 1 (m.map iC)] (.v (.bool (decide (l = m)))) := by
 refine pc_of_awp Tryz.func49 rfl Tryz.ntmps49 (rs := [.tmp 4]) Tryz.results49 (by simp) fun w0 => ?_
 refine awp_seq ?_
 refine awp_region 1 mixed (by kernel_rfl) ?_
 refine rg_q (q_a rfl) ?_
 refine rn ?_
 change Awp _ _ _ _ _
 refine awp_seq ?_
 refine awp_seq ?_
 refine awp_region 5 mixed (by kernel_rfl) ?_
 refine rg_q (q_move (x := .d (.sl _ _)) rfl) ?_
 refine rg_q (q_len isl77 rfl (by exact len_map _ _)) ?_
 refine rg_q (q_move (x := .d (.sl _ _)) rfl) ?_
 refine rg_q (q_len isl77 rfl (by exact len_map _ _)) ?_
 refine rg_q (q_neq rfl rfl) ?_
 refine rn ?_
 change Awp _ _ _ _ _
 refine awp_len (t := 6) rfl (fun hl6 => ?_)
 (try simp only [List.length_map] at hl6)
 refine awp_len (t := 8) rfl (fun hl8 => ?_)
 (try simp only [List.length_map] at hl8)
 refine awp_cond rfl (fun hc1 => ?_) (fun hc1 => ?_)
 ·
  (try simp only [nb, ne_eq] at hc1)
  have hz : decide (l = m) = false := decide_eq_false (fun e => by rw [e] at hc1; omega)
  refine awp_seq ?_
  refine awp_region 1 mixed (by kernel_rfl) ?_
  refine rg_q (q_a rfl) ?_
  refine rn ?_
  change Awp _ _ _ _ _
  refine awp_ret ?_
  refine ⟨_, (.cons (.tmp (by exact .d _)) .nil), ?_⟩
  rw [hz]; rfl
 ·
  (try simp only [nb, ne_eq] at hc1)
  have hlm : l.length = m.length := by omega
  refine awp_skip ?_
  change Awp _ _ _ _ _
  refine awp_seq ?_
  refine awp_seq ?_
  refine awp_region 1 mixed (by kernel_rfl) ?_
  refine rg_q (q_a rfl) ?_
  refine rn ?_
  change Awp _ _ _ _ _
  refine awp_block ?_
  refine awp_loopH [4, 5, 11, 12, 13, 14, 15, 16, 17, 18, 19, 20, 21, 22, 23, 24, 25] [] (α := Nat) (fun k => [(5, T.i (k : Int))]) (fun k => []) (fun k => k ≤ l.length ∧ l.take k = m.take k) (fun k => l.length - k) 0 ⟨Nat.zero_le _, rfl⟩ ?_ ?_
  · exact le_head (ms := []) (by repeat (exact Out.refl _)) ⟨(by rfl), trivial⟩ trivial rfl rfl rfl rfl
  ·
   intro k ⟨hk, hf⟩
   refine awp_seq ?_
   refine awp_seq ?_
   refine awp_region 4 mixed (by kernel_rfl) ?_
   refine rg_q (q_m rfl) (rg_q (q_move (x := .d (.sl _ _)) rfl) ?_)
   refine rg_q (q_len isl77 rfl (by exact len_map _ _)) ?_
   refine rg_q (q_lss rfl rfl) ?_
   refine rn ?_
   change Awp _ _ _ _ _
   refine awp_len (t := 12) rfl (fun hl12 => ?_)
   (try simp only [List.length_map] at hl12)
   refine awp_cond rfl (fun hc4 => ?_) (fun hc4 => ?_)
   ·
    (try simp only [nb, ne_eq] at hc4)
    have hlt : k < l.length := by omega
    obtain ⟨x, hx⟩ : ∃ x, l[k]? = some x := ⟨_, List.getElem?_eq_getElem hlt⟩
    obtain ⟨y, hy⟩ : ∃ y, m[k]? = some y := ⟨_, List.getElem?_eq_getElem (by omega)⟩
    refine awp_skip ?_
    change Awp _ _ _ _ _
    refine awp_seq ?_
    refine awp_block ?_
    refine awp_seq ?_
    refine awp_region 9 mixed (by kernel_rfl) ?_
    refine rg_q (q_move (x := .d (.sl _ _)) rfl) (rg_q (q_m rfl) ?_)
    refine rg_q (q_indexAddr sl77 rfl rfl (by omega) (map_at (k := k) (by omega) hx)) ?_
    refine rg_q (q_load sz3 rfl rfl) (rg_q (q_move (x := .d (.sl _ _)) rfl) (rg_q (q_m rfl) ?_))
    refine rg_q (q_indexAddr sl77 rfl rfl (by omega) (map_at (k := k) (by omega) hy)) ?_
    refine rg_q (q_load sz3 rfl rfl) (rg_q (q_neq rfl rfl) ?_)
    refine rn ?_
    change Awp _ _ _ _ _
    refine awp_cond rfl (fun hc6 => ?_) (fun hc6 => ?_)
    ·
     (try simp only [nb, ne_eq] at hc6)
     have hz : decide (l = m) = false := decide_eq_false (fun e => by rw [e, hy] at hx; have := Option.some.inj hx; omega)
     refine awp_seq ?_
     refine awp_region 1 mixed (by kernel_rfl) ?_
     refine rg_q (q_a rfl) ?_
     refine rn ?_
     change Awp _ _ _ _ _
     refine awp_ret ?_
     refine ⟨_, (.cons (.tmp (by exact .d _)) .nil), ?_⟩
     rw [hz]; rfl
    ·
     (try simp only [nb, ne_eq] at hc6)
     have hxy : x = y := by omega
     have hnx : l.take (k + 1) = m.take (k + 1) := by rw [List.take_succ_eq_append_getElem hlt, List.take_succ_eq_append_getElem (by omega), hf, (List.getElem?_eq_some_iff.1 hx).2, (List.getElem?_eq_some_iff.1 hy).2, hxy]
     refine awp_skip ?_
     change Awp _ _ _ _ _
     refine awp_region 3 mixed (by kernel_rfl) ?_
     refine rg_q (q_m rfl) ?_
     refine rg_q (q_add rfl rfl (In64.mk (by omega) (by omega))) ?_
     refine rg_q (q_a rfl) ?_
     refine rn ?_
     refine ⟨k + 1, ⟨by omega, hnx⟩, by omega, ?_⟩
     exact le_head (ms := []) (by repeat (first | exact Out.head rfl rfl | (refine Out.put ?_ rfl))) ⟨(by rfl), trivial⟩ trivial rfl rfl rfl rfl
   ·
    (try simp only [nb, ne_eq] at hc4)
    have hz : decide (l = m) = true := decide_eq_true (by rw [← List.take_of_length_le (l := l) (i := k) (by omega), hf, List.take_of_length_le (by omega)])
    refine awp_exit ?_
    change Awp _ _ _ _ _
    refine awp_seq ?_
    refine awp_region 1 mixed (by kernel_rfl) ?_
    refine rg_q (q_a rfl) ?_
    refine rn ?_
    change Awp _ _ _ _ _
    refine awp_ret ?_
    refine ⟨_, (.cons (.tmp (by exact .d _)) .nil), ?_⟩
    rw [hz]; rfl

theorem ex_vl : vlI oneT 0 = ((30, -20), 1) := by decide +kernel
theorem ex_en : endI oneT 0 = ((30, 30), -20, -20) := by decide +kernel
theorem ex_pk : peaksR ⟨0, 0, 3, 1, 1⟩ [5, 1, 5] = ([0, 2], 0) := by decide +kernel
theorem ex_de : dealR 2 [[1, 0], []] = (1, 0) := by decide +kernel
theorem ex_cz : cz 30 (-20) = .v (.complex .f64 4629137466983448576 13849694754071117824) := by
  have h1 : FloatKind.f64.nearest 30 = 4629137466983448576 := by decide +kernel
  have h2 : FloatKind.f64.nearest (-20) = 13849694754071117824 := by decide +kernel
  unfold cz; rw [h1, h2]

theorem exB_wh : WhlL exB := by
  have h3 : (0 :: 0 :: 30 :: -20 :: List.replicate 60 0 : List Int).map FloatKind.f32.nearest = exB := by decide +kernel
  have h4 : ∀ n ∈ (0 :: 0 :: 30 :: -20 :: List.replicate 60 0 : List Int), -2047 ≤ n ∧ n ≤ 2047 := by decide +kernel
  intro b hb
  rw [← h3] at hb
  obtain ⟨n, hn, rfl⟩ := List.mem_map.1 hb
  have hw := whl_fn (h4 n hn).1 (h4 n hn).2
  rw [hw.v]; exact hw
theorem oneT_ok : TskOk oneT := ⟨by decide +kernel, by decide, by decide, by decide +kernel, exB_wh, by decide, by decide +kernel, by decide, by decide, by decide +kernel, by decide +kernel⟩
theorem oneT_c : clE oneT.g 0 = 0 := by decide +kernel
set_option maxRecDepth 100000 in
theorem awake5_p  : PC Tryz.prog 18 [] (.v (.bool (true))) := by
 refine pc_of_awpN Tryz.func18 rfl Tryz.ntmps18 (rs := [.tmp 0]) Tryz.results18 (by simp) fun w0 hmine hrnd hpn => ?_
 refine awp_seq ?_
 refine awp_region 1 mixed (by kernel_rfl) ?_
 refine rg_q (q_a rfl) ?_
 refine rs (awp_region 9 mixed (by kernel_rfl) ?_)
 refine rg_q (q_call en82 .nil rfl (one5_p)) ?_
 refine rg_q (q_call en23 (.cons rfl (.cons rfl .nil)) rfl ((by have h := valueAt_p oneT 0 oneT_ok oneT_c; rw [ex_vl, ex_cz] at h; exact h))) ?_
 refine rg_q (q_move (x := .d (.tup _)) rfl) (rg_q (q_extract rfl rfl) (rg_q (q_extract rfl rfl) (rg_q (q_extract rfl rfl) (rg_q (q_a rfl) (rg_q (q_a rfl) ?_)))))
 refine rg_q (q_a rfl) ?_
 refine rs (awp_region 5 mixed (by kernel_rfl) ?_)
 refine rg_q (q_call en82 .nil rfl (one5_p)) ?_
 refine rg_q (q_call en28 (.cons rfl (.cons rfl .nil)) rfl ((by have h := endsAt_p oneT 0 oneT_ok oneT_c; rw [ex_en] at h; exact h))) ?_
 refine rg_q (q_move (x := .d (.tup _)) rfl) (rg_q (q_extract rfl rfl) (rg_q (q_extract rfl rfl) ?_))
 refine rg_nil ?_
 refine aops_alloc zr57 rfl rfl rfl ?_
 refine aops_store sz57 rfl rfl (by exact .inr ⟨_, rfl⟩) rfl rfl (by decide) rfl ?_
 refine aops_q rfl (q_a rfl) ?_
 refine aops_nil ?_
 change Awp _ _ _ _ _
 refine awp_seq ?_
 refine awp_region 8 mixed (by kernel_rfl) ?_
 refine rg_q (q_build (cs := [_, _, _, _, _]) pl35 zr35 rfl (.cons rfl (by exact .inl rfl) (.cons rfl (by exact .inl rfl) (.cons rfl (by exact .inl rfl) .nil))) ⟨⟨rfl, by decide⟩, ⟨rfl, by decide⟩, ⟨rfl, by decide⟩, trivial⟩ rfl) ?_
 refine rg_q (q_buildSlice sl77 zr3 rfl rfl (by decide) (.cons rfl (by exact .inl rfl) (.cons rfl (by exact .inl rfl) (.cons rfl (by exact .inl rfl) .nil))) ⟨rfl, rfl, rfl, rfl, rfl, rfl, trivial⟩ rfl (by decide) rfl) ?_
 refine rg_q (q_call en83 (.cons rfl (.cons rfl .nil)) rfl ((by have h := peaks_p ⟨0, 0, 3, 1, 1⟩ [5, 1, 5]; rw [ex_pk] at h; exact h))) ?_
 refine rg_q (q_move (x := .d (.tup _)) rfl) (rg_q (q_extract rfl rfl) (rg_q (q_extract rfl rfl) (rg_q (q_assign (x := .d (.sl _ _)) rfl) (rg_q (q_a rfl) ?_))))
 refine rs (awp_region 9 mixed (by kernel_rfl) ?_)
 refine rg_q (q_buildSlice sl77 zr3 rfl rfl (by decide) (.cons rfl (by exact .inl rfl) (.cons rfl (by exact .inl rfl) .nil)) ⟨rfl, rfl, rfl, rfl, trivial⟩ rfl (by decide) rfl) ?_
 refine rg_q (q_buildSlice sl77 zr3 rfl rfl (by decide) .nil trivial rfl (by decide) rfl) ?_
 refine rg_q (q_buildSlice sl120 zr77 rfl rfl (by decide) (.cons rfl (by exact .inl rfl) (.cons rfl (by exact .inl rfl) .nil)) ⟨rfl, rfl, rfl, rfl, trivial⟩ rfl (by decide) rfl) ?_
 refine rg_q (q_call en84 (.cons rfl (.cons rfl .nil)) rfl ((by have h := checkDeal_p 2 [[1, 0], []]; rw [ex_de] at h; exact h))) ?_
 refine rg_q (q_move (x := .d (.tup _)) rfl) (rg_q (q_extract rfl rfl) (rg_q (q_extract rfl rfl) (rg_q (q_a rfl) (rg_q (q_a rfl) ?_))))
 refine rs (awp_region 39 mixed (by kernel_rfl) ?_)
 refine rg_q (q_m rfl) (rg_q (q_eql rfl rfl) (rg_q (q_m rfl) ?_))
 refine rg_g rfl rfl (fun hG => (q_m rfl)) ?_
 refine rg_g rfl rfl (fun hG => (q_call en26 (.cons rfl (.cons rfl .nil)) rfl (sameBits_p 4629137466983448576 13849694754071117824 4629137466983448576 13849694754071117824))) ?_
 refine rg_pick rfl rfl rfl rfl rfl rfl ?_
 refine rg_q (q_m rfl) ?_
 refine rg_g rfl rfl (fun hG => (q_m rfl)) ?_
 refine rg_g rfl rfl (fun hG => (q_eql rfl rfl)) ?_
 refine rg_pick rfl rfl rfl rfl rfl rfl ?_
 refine rg_q (q_m rfl) ?_
 refine rg_g rfl rfl (fun hG => (q_m rfl)) ?_
 refine rg_g rfl rfl (fun hG => (q_eql rfl rfl)) ?_
 refine rg_pick rfl rfl rfl rfl rfl rfl ?_
 refine rg_q (q_m rfl) ?_
 refine rg_g rfl rfl (fun hG => (q_load_refA (ds := [_, _, _, _]) sz57 rfl rfl rfl rfl)) ?_
 refine rg_g rfl rfl (fun hG => (q_build (cs := [_, _]) pl56 zr56 rfl (.cons rfl (by exact .inl rfl) (.cons rfl (by exact .inl rfl) .nil)) ⟨⟨rfl, by decide⟩, ⟨rfl, by decide⟩, trivial⟩ rfl)) ?_
 refine rg_g rfl rfl (fun hG => (q_build (cs := [_, _]) pl56 zr56 rfl (.cons rfl (by exact .inl rfl) (.cons rfl (by exact .inl rfl) .nil)) ⟨⟨rfl, by decide⟩, ⟨rfl, by decide⟩, trivial⟩ rfl)) ?_
 refine rg_g rfl rfl (fun hG => (q_buildA (cs := [_, _, _, _]) ar57 zr57 rfl (.cons rfl (by exact .inr ⟨_, rfl⟩) (.cons rfl (by exact .inr ⟨_, rfl⟩) .nil)) ⟨⟨rfl, by decide⟩, ⟨rfl, by decide⟩, trivial⟩ rfl)) ?_
 refine rg_g rfl rfl (fun hG => (q_eqlI (xs := [_, _, _, _]) (ys := [_, _, _, _]) eqi57 rfl rfl rfl rfl)) ?_
 refine rg_pick rfl rfl rfl rfl rfl rfl ?_
 refine rg_q (q_m rfl) ?_
 refine rg_g rfl rfl (fun hG => (q_m rfl)) ?_
 refine rg_g rfl rfl (fun hG => (q_eql rfl rfl)) ?_
 refine rg_pick rfl rfl rfl rfl rfl rfl ?_
 refine rg_q (q_m rfl) ?_
 refine rg_g rfl rfl (fun hG => (q_move (x := .d (.sl _ _)) rfl)) ?_
 refine rg_g rfl rfl (fun hG => (q_buildSlice sl77 zr3 rfl rfl (by decide) (.cons rfl (by exact .inl rfl) (.cons rfl (by exact .inl rfl) .nil)) ⟨rfl, rfl, rfl, rfl, trivial⟩ rfl (by decide) rfl)) ?_
 refine rg_g rfl rfl (fun hG => (q_call en49 (.cons rfl (.cons rfl .nil)) rfl (ints5_p [0, 2] [0, 2]))) ?_
 refine rg_pick rfl rfl rfl rfl rfl rfl ?_
 refine rg_q (q_m rfl) ?_
 refine rg_g rfl rfl (fun hG => (q_m rfl)) ?_
 refine rg_g rfl rfl (fun hG => (q_eql rfl rfl)) ?_
 refine rg_pick rfl rfl rfl rfl rfl rfl ?_
 refine rg_q (q_m rfl) ?_
 refine rg_g rfl rfl (fun hG => (q_m rfl)) ?_
 refine rg_g rfl rfl (fun hG => (q_eql rfl rfl)) ?_
 refine rg_pick rfl rfl rfl rfl rfl rfl ?_
 refine rg_q (q_a rfl) ?_
 refine rn ?_
 change Awp _ _ _ _ _
 refine awp_ret ?_
 refine ⟨_, (.cons (.tmp (by exact .d _)) .nil), ?_⟩
 simp [retD, sbB]
end Go.Proofs.YtphlaicnmmglhaaGreat.Am.M
-- mini
namespace Go.Proofs.YtphlaicnmmglhaaGreat.Am.M
open Go

end Go.Proofs.YtphlaicnmmglhaaGreat.Am.M
-- mini
namespace Go.Proofs.YtphlaicnmmglhaaGreat.Am.M
open Go
end Go.Proofs.YtphlaicnmmglhaaGreat.Am.M
-- mini
namespace Go.Proofs.YtphlaicnmmglhaaGreat.Am.M
open Go

end Go.Proofs.YtphlaicnmmglhaaGreat.Am.M
-- mini
namespace Go.Proofs.YtphlaicnmmglhaaGreat.Am.M
open Go

theorem in_M {s : Bool} {N : Nat} (k : Nat) : (-(k : Int) ≤ sgI s N ∧ sgI s N ≤ (k : Int)) ↔ N ≤ k := by unfold sgI; cases s <;> simp <;> omega
theorem i64_of {a : Int} (h : a.natAbs ≤ 1000000000000000000) : IntKind.i64.min ≤ a ∧ a ≤ IntKind.i64.max := by
  show (-9223372036854775808 : Int) ≤ a ∧ a ≤ 9223372036854775807
  omega
theorem int_num {k : FloatKind} {b : Nat} {s : Bool} {M : Nat} (h : Numb k.format b s M) (hM : M / QQ ≤ 1000000000000000000) : floatToIntVal k b .i64 = some (sgI s (M / QQ)) := by
  unfold floatToIntVal
  have h1 : (k.decode b).toInt .zero = some (sgI s (M / QQ)) := toInt_num h
  rw [h1]
  exact if_pos (i64_of (by rw [sg_abs]; exact hM))
def whD (b : Nat) : Bool :=
  match Ieee.double.read b with
  | .number _ m e => decide (m * 2 ^ (e + KK).toNat % QQ = 0)
  | _ => false
theorem rd_hi16 : Ieee.double.read 4846369599423283200 = .number false 5000000000000000 1 := by decide +kernel
theorem rd_lo16 : Ieee.double.read 14069741636278059008 = .number true 5000000000000000 1 := by decide +kernel
theorem num_hi16 : Numb Ieee.double 4846369599423283200 false (10000000000000000 * QQ) := ⟨_, _, rd_hi16, by omega, by
  rw [show ((1 : Int) + KK).toNat = KK + 1 by omega, Nat.pow_succ]; have e : 2 ^ KK = QQ := rfl
  rw [e]; generalize QQ = q; omega⟩
theorem num_lo16 : Numb Ieee.double 14069741636278059008 true (10000000000000000 * QQ) := ⟨_, _, rd_lo16, by omega, by
  rw [show ((1 : Int) + KK).toNat = KK + 1 by omega, Nat.pow_succ]; have e : 2 ^ KK = QQ := rfl
  rw [e]; generalize QQ = q; omega⟩
theorem d_zero : ordB .neq (FloatKind.f64.format.order 0 0) = false := by decide +kernel
set_option maxRecDepth 100000 in
theorem isWholeBad_p (b : Nat) (h : floatBits .sub .f64 b b = none) : PC Tryz.prog 194 [.v (.float .f64 b)] (.v (.bool (false))) := by
 refine pc_of_awp Tryz.func194 rfl Tryz.ntmps194 (rs := [.tmp 2]) Tryz.results194 (by simp) fun w0 => ?_
 refine awp_seq ?_
 refine awp_region 1 mixed (by kernel_rfl) ?_
 refine rg_q (q_a rfl) ?_
 refine rn ?_
 change Awp _ _ _ _ _
 refine awp_seq ?_
 refine awp_seq ?_
 refine awp_region 9 mixed (by kernel_rfl) ?_
 refine rg_q (q_m rfl) (rg_q (q_m rfl) ?_)
 refine rg_q (q_fcmp (by decide) rfl rfl rfl) ?_
 refine rg_q (q_m rfl) ?_
 refine rg_g rfl rfl (fun hG => (q_m rfl)) ?_
 refine rg_g rfl rfl (fun hG => (q_m rfl)) ?_
 refine rg_g rfl rfl (fun hG => (q_farN (by decide) rfl rfl h)) ?_
 refine rg_g rfl rfl (fun hG => (q_fcmpN (by decide) rfl rfl rfl)) ?_
 refine rg_pick rfl rfl rfl rfl rfl rfl ?_
 refine rn ?_
 change Awp _ _ _ _ _
 refine awp_cond rfl (fun hc1 => ?_) (fun hc1 => ?_)
 ·
  (try simp only [nb, ne_eq] at hc1)
  refine awp_seq ?_
  refine awp_region 1 mixed (by kernel_rfl) ?_
  refine rg_q (q_a rfl) ?_
  refine rn ?_
  change Awp _ _ _ _ _
  refine awp_ret ?_
  refine ⟨_, (.cons (.tmp (by exact .d _)) .nil), ?_⟩
  rfl
 ·
  rw [show ordB .neq none = true from rfl] at hc1
  simp [bif_or] at hc1
set_option maxRecDepth 100000 in
theorem isWholeNum_p (b : Nat) (c1 c2 c3 : Bool) (n : Int) (hs : floatBits .sub .f64 b b = some 0) (h0 : ordB .neq (FloatKind.f64.format.order b b) = false) (h1 : ordB .geq (FloatKind.f64.format.order b 14069741636278059008) = c1) (h2 : ordB .leq (FloatKind.f64.format.order b 4846369599423283200) = c2) (h3 : (c1 && c2) = true → floatToIntVal .f64 b .i64 = some n ∧ ordB .eql (FloatKind.f64.format.order (FloatKind.f64.nearest n) b) = c3) : PC Tryz.prog 194 [.v (.float .f64 b)] (.v (.bool (if (c1 && c2) = true then c3 else true))) := by
 refine pc_of_awp Tryz.func194 rfl Tryz.ntmps194 (rs := [.tmp 2]) Tryz.results194 (by simp) fun w0 => ?_
 refine awp_seq ?_
 refine awp_region 1 mixed (by kernel_rfl) ?_
 refine rg_q (q_a rfl) ?_
 refine rn ?_
 change Awp _ _ _ _ _
 refine awp_seq ?_
 refine awp_seq ?_
 refine awp_region 9 mixed (by kernel_rfl) ?_
 refine rg_q (q_m rfl) (rg_q (q_m rfl) ?_)
 refine rg_q (q_fcmp (by decide) rfl rfl h0) ?_
 refine rg_q (q_m rfl) ?_
 refine rg_g rfl rfl (fun hG => (q_m rfl)) ?_
 refine rg_g rfl rfl (fun hG => (q_m rfl)) ?_
 refine rg_g rfl rfl (fun hG => (q_fbin (by decide) rfl rfl hs)) ?_
 refine rg_g rfl rfl (fun hG => (q_fcmp (by decide) rfl rfl d_zero)) ?_
 refine rg_pick rfl rfl rfl rfl rfl rfl ?_
 refine rn ?_
 change Awp _ _ _ _ _
 refine awp_cond rfl (fun hc1 => ?_) (fun hc1 => ?_)
 ·
  cases hc1
 ·
  (try simp only [nb, ne_eq] at hc1)
  refine awp_skip ?_
  change Awp _ _ _ _ _
  refine awp_seq ?_
  refine awp_seq ?_
  refine awp_region 7 mixed (by kernel_rfl) ?_
  refine rg_q (q_m rfl) ?_
  refine rg_q (q_fcmp (by decide) rfl rfl h1) ?_
  refine rg_q (q_m rfl) ?_
  refine rg_g rfl rfl (fun hG => (q_m rfl)) ?_
  refine rg_g rfl rfl (fun hG => (q_fcmp (by decide) rfl rfl h2)) ?_
  refine rg_pick rfl rfl rfl rfl rfl rfl ?_
  refine rg_q (q_not rfl) ?_
  refine rn ?_
  change Awp _ _ _ _ _
  refine awp_cond rfl (fun hc3 => ?_) (fun hc3 => ?_)
  ·
   (try simp only [nb, ne_eq] at hc3)
   have hq : ¬ (c1 && c2) = true := by rcases hc3 with q | q <;> simp [q]
   rw [if_neg hq]
   refine awp_seq ?_
   refine awp_region 1 mixed (by kernel_rfl) ?_
   refine rg_q (q_a rfl) ?_
   refine rn ?_
   change Awp _ _ _ _ _
   refine awp_ret ?_
   refine ⟨_, (.cons (.tmp (by exact .d _)) .nil), ?_⟩
   rfl
  ·
   (try simp only [nb, ne_eq] at hc3)
   have hq : (c1 && c2) = true := by simpa using hc3
   obtain ⟨hi, hb⟩ := h3 hq
   rw [if_pos hq]
   refine awp_skip ?_
   change Awp _ _ _ _ _
   refine awp_seq ?_
   refine awp_region 6 mixed (by kernel_rfl) ?_
   refine rg_q (q_m rfl) ?_
   refine rg_q (q_convfi flt167 int3 rfl hi) ?_
   refine rg_q (q_convf int3 flt167 rfl) ?_
   refine rg_q (q_m rfl) ?_
   refine rg_q (q_fcmp (by decide) rfl rfl hb) ?_
   refine rg_q (q_a rfl) ?_
   refine rn ?_
   change Awp _ _ _ _ _
   refine awp_ret ?_
   refine ⟨_, (.cons (.tmp (by exact .d _)) .nil), ?_⟩
   rfl

theorem sg_in {s : Bool} {M : Nat} (K : Nat) : (decide (sgI true K ≤ sgI s M) && decide (sgI s M ≤ sgI false K)) = decide (M ≤ K) := by
  rw [← Bool.decide_and]
  refine decide_eq_decide.2 ?_
  unfold sgI
  cases s <;> simp <;> omega
theorem isWhole_p (b : Nat) : PC Tryz.prog 194 [.v (.float .f64 b)] (.v (.bool (whD b))) := by
  cases hr : Ieee.double.read b with
  | nan s t =>
    have e : whD b = false := by unfold whD; rw [hr]
    rw [e]
    exact isWholeBad_p b (show Ieee.double.sub b b = none by unfold Ieee.Format.sub; rw [hr]; rfl)
  | infinity s =>
    have e : whD b = false := by unfold whD; rw [hr]
    rw [e]
    exact isWholeBad_p b (sub_inf hr)
  | number s m e =>
    obtain ⟨M, hM⟩ : ∃ M, m * 2 ^ (e + KK).toNat = M := ⟨_, rfl⟩
    have hn := num_of fmD LD hr
    rw [hM] at hn
    have e : whD b = decide (M % QQ = 0) := by unfold whD; rw [hr]; simp only [hM]
    rw [e]
    have h := isWholeNum_p b _ _ (decide (M % QQ = 0)) (sgI s (M / QQ)) (sub_num hn) (ob_self hn) (ob_geq hn num_lo16) (ob_leq hn num_hi16) (fun q => ?_)
    · rw [sg_in] at h
      by_cases h1 : M ≤ 10000000000000000 * QQ
      · rw [if_pos (decide_eq_true h1)] at h; exact h
      · rw [if_neg (by rw [decide_eq_false h1]; decide)] at h
        have : M % QQ = 0 := big_whole fmD hr hM (by
          have := QQ_pos
          have e : 2 ^ (52 + 1) * QQ ≤ 10000000000000000 * QQ := Nat.mul_le_mul_right _ (by decide)
          omega)
        rw [decide_eq_true this]; exact h
    · rw [sg_in, decide_eq_true_eq] at q
      have h2 : M / QQ ≤ 10000000000000000 := Nat.div_le_of_le_mul (by rw [Nat.mul_comm]; exact q)
      refine ⟨int_num (k := .f64) hn (by omega), back_ord fmD LD hr hM⟩

end Go.Proofs.YtphlaicnmmglhaaGreat.Am.M
-- mini
namespace Go.Proofs.YtphlaicnmmglhaaGreat.Am.M
open Go

end Go.Proofs.YtphlaicnmmglhaaGreat.Am.M
-- mini
namespace Go.Proofs.YtphlaicnmmglhaaGreat.Am.M
open Go

end Go.Proofs.YtphlaicnmmglhaaGreat.Am.M
-- mini
namespace Go.Proofs.YtphlaicnmmglhaaGreat.Am.M
open Go

set_option maxRecDepth 100000 in
theorem rnum_p (re im : Int) : PC Tryz.prog 101 [.v (.int .i64 (re)), .v (.int .i64 (im))] (cz re im) := by
 refine pc_of_awp Tryz.func101 rfl Tryz.ntmps101 (rs := [.tmp 4]) Tryz.results101 (by simp) fun w0 => ?_
 refine awp_seq ?_
 refine awp_region 1 mixed (by kernel_rfl) ?_
 refine rg_q (q_a rfl) ?_
 refine rs (awp_region 6 mixed (by kernel_rfl) ?_)
 refine rg_q (q_m rfl) ?_
 refine rg_q (q_convf int3 flt167 rfl) ?_
 refine rg_q (q_m rfl) ?_
 refine rg_q (q_convf int3 flt167 rfl) ?_
 refine rg_q (q_complex rfl rfl) ?_
 refine rg_q (q_a rfl) ?_
 refine rn ?_
 change Awp _ _ _ _ _
 refine awp_ret ?_
 refine ⟨_, (.cons (.tmp (by exact .d _)) .nil), ?_⟩
 rfl

def cvD (z : Nat × Nat) : D := .v (.complex .f64 z.1 z.2)
def czP (x : Int × Int) : Nat × Nat := (FloatKind.f64.nearest x.1, FloatKind.f64.nearest x.2)
end Go.Proofs.YtphlaicnmmglhaaGreat.Am.M
-- mini
namespace Go.Proofs.YtphlaicnmmglhaaGreat.Am.M
open Go

def cvC (z : Nat × Nat) : List D := [cvD z]
set_option maxRecDepth 100000 in
theorem numbersOf5_p (l : List (Int × Int)) (hl : l.length ≤ 10000) : PC Tryz.prog 113 [.sl 2 (l.map shC)] (.sl 1 ((l.map czP).map cvC)) := by
 refine pc_of_awpN Tryz.func113 rfl Tryz.ntmps113 (rs := [.tmp 2]) Tryz.results113 (by simp) fun w0 hmine hrnd hpn => ?_
 refine awp_seq ?_
 refine awp_region 1 mixed (by kernel_rfl) ?_
 refine rg_q (q_assign (x := .d (.sl _ _)) rfl) ?_
 refine rs (awp_region 1 mixed (by kernel_rfl) ?_)
 refine rg_q (q_assign_nil) ?_
 refine rn ?_
 change Awp _ _ _ _ _
 refine Awp.le (le_own (k := 3) (e := 46) (sz := 1) rfl rfl) ?_
 refine awp_seq ?_
 refine awp_seq ?_
 refine awp_region 3 mixed (by kernel_rfl) ?_
 refine rg_q (q_move (x := .d (.sl _ _)) rfl) ?_
 refine rg_q (q_len isl189 rfl (by exact len_map _ _)) ?_
 refine rg_q (q_m rfl) ?_
 refine rn ?_
 change Awp _ _ _ _ _
 refine awp_len (t := 6) rfl (fun hl6 => ?_)
 (try simp only [List.length_map] at hl6)
 refine awp_block ?_
 refine awp_loopH [3, 5, 8, 9, 10, 11, 12, 13, 14, 15, 16, 17] [3] (α := Nat) (fun k => [(8, T.i (k : Int)), (3, .rs 3)]) (fun k => [(3, .row 46 1 (((l.take k).map czP).map cvC))]) (fun k => k ≤ l.length) (fun k => l.length - k) 0 (Nat.zero_le _) ?_ ?_
 · exact le_head (ms := [3]) (by repeat (exact Out.refl _)) ⟨(by rfl), (by rfl), trivial⟩ ⟨(by rfl), trivial⟩ rfl rfl rfl rfl
 ·
  intro k hk
  have htl : (l.take k).length ≤ k := by rw [List.length_take]; omega
  refine awp_seq ?_
  refine awp_region 1 mixed (by kernel_rfl) ?_
  refine rg_q (q_lss rfl rfl) ?_
  refine rn ?_
  change Awp _ _ _ _ _
  refine awp_seq ?_
  refine awp_cond rfl (fun hc3 => ?_) (fun hc3 => ?_)
  ·
   (try simp only [nb, ne_eq] at hc3)
   have hlt : k < l.length := by omega
   obtain ⟨x, hx⟩ : ∃ x, l[k]? = some x := ⟨_, List.getElem?_eq_getElem hlt⟩
   have hsk : ((l.take (k + 1)).map czP).map cvC = ((l.take k).map czP).map cvC ++ [cvC (czP x)] := by rw [takeSnoc hx, List.map_append, List.map_append]; rfl
   refine awp_skip ?_
   change Awp _ _ _ _ _
   refine awp_seq ?_
   refine awp_block ?_
   refine awp_seq ?_
   refine awp_region 2 mixed (by kernel_rfl) ?_
   refine rg_q (q_indexAddr sl189 rfl rfl (by omega) (map_at (by omega) hx)) ?_
   refine rg_q (q_loadA (ds := [_, _]) sz160 rfl rfl rfl) ?_
   refine rg_nil ?_
   refine aops_allocD zr160 rfl sz160 rfl rfl (by exact .inr ⟨_, rfl⟩) rfl rfl ?_
   refine aops_nil ?_
   change Awp _ _ _ _ _
   refine awp_region 4 mixed (by kernel_rfl) ?_
   refine rg_q (q_move (x := .rs _) rfl) ?_
   refine rg_q (q_loadA (ds := [_, _]) sz160 rfl rfl rfl) ?_
   refine rg_q (q_call en97 (.cons rfl .nil) rfl (fnumber_p x.1 x.2)) ?_
   refine rg_q (q_buildSlice sl72 zr46 rfl rfl (by decide) (.cons rfl (by exact .inl rfl) .nil) ⟨rfl, rfl, trivial⟩ rfl (by decide) rfl) ?_
   refine rg_nil ?_
   refine aops_append sl72 zr46 by46 rfl (by decide) rfl rfl rfl rfl (by (try simp only [List.length_map, List.length_append, List.length_cons, List.length_nil]); omega) (by (try simp only [List.length_map, List.length_append, List.length_cons, List.length_nil]); omega) rfl rfl ?_
   refine aops_q rfl (q_assign (x := .rs _) rfl) ?_
   refine aops_nil ?_
   change Awp _ _ _ _ _
   refine awp_region 2 mixed (by kernel_rfl) ?_
   refine rg_q (q_add rfl rfl (In64.mk (by omega) (by omega))) ?_
   refine rg_q (q_m rfl) ?_
   refine rn ?_
   refine ⟨k + 1, by omega, by omega, ?_⟩
   exact le_head (ms := [3]) (by repeat (first | exact Out.head rfl rfl | (refine Out.put ?_ rfl) | (refine Out.site ?_ rfl) | (refine Out.killS ?_ rfl))) ⟨(by rfl), (by rfl), trivial⟩ ⟨(by ((show Site.row _ _ _ = Site.row _ _ _; (rw [hsk]; rfl)))), trivial⟩ rfl rfl rfl rfl
  ·
   (try simp only [nb, ne_eq] at hc3)
   have hkn : k = l.length := by omega
   subst hkn
   rw [List.take_length]
   refine awp_exit ?_
   change Awp _ _ _ _ _
   refine awp_seq ?_
   refine awp_region 2 mixed (by kernel_rfl) ?_
   refine rg_q (q_move (x := .rs _) rfl) (rg_q (q_assign (x := .rs _) rfl) ?_)
   refine rn ?_
   change Awp _ _ _ _ _
   refine awp_ret ?_
   refine ⟨_, (.cons (.tmp (by exact .rs rfl)) .nil), ?_⟩
   rfl

theorem sbB_is (x y : Nat × Nat) : sbB x.1 x.2 y.1 y.2 = decide (x = y) := by
  obtain ⟨a, b⟩ := x
  obtain ⟨c, d⟩ := y
  unfold sbB
  by_cases h1 : a = c
  · by_cases h2 : b = d
    · simp [h1, h2]
    · have : ¬ (b : Int) = d := by omega
      simp [h1, h2, this]
  · have : ¬ (a : Int) = c := by omega
    simp [h1, this]
set_option maxRecDepth 100000 in
theorem sameNums_p (l m : List (Nat × Nat)) : PC Tryz.prog 38 [.sl 1 (l.map cvC), .sl 1 (m.map cvC)] (.v (.bool (decide (l = m)))) := by
 refine pc_of_awp Tryz.func38 rfl Tryz.ntmps38 (rs := [.tmp 4]) Tryz.results38 (by simp) fun w0 => ?_
 refine awp_seq ?_
 refine awp_region 1 mixed (by kernel_rfl) ?_
 refine rg_q (q_a rfl) ?_
 refine rn ?_
 change Awp _ _ _ _ _
 refine awp_seq ?_
 refine awp_seq ?_
 refine awp_region 5 mixed (by kernel_rfl) ?_
 refine rg_q (q_move (x := .d (.sl _ _)) rfl) ?_
 refine rg_q (q_len isl72 rfl (by exact len_map _ _)) ?_
 refine rg_q (q_move (x := .d (.sl _ _)) rfl) ?_
 refine rg_q (q_len isl72 rfl (by exact len_map _ _)) ?_
 refine rg_q (q_neq rfl rfl) ?_
 refine rn ?_
 change Awp _ _ _ _ _
 refine awp_len (t := 6) rfl (fun hl6 => ?_)
 (try simp only [List.length_map] at hl6)
 refine awp_len (t := 8) rfl (fun hl8 => ?_)
 (try simp only [List.length_map] at hl8)
 refine awp_cond rfl (fun hc1 => ?_) (fun hc1 => ?_)
 ·
  (try simp only [nb, ne_eq] at hc1)
  have hz : decide (l = m) = false := decide_eq_false (fun e => by rw [e] at hc1; omega)
  refine awp_seq ?_
  refine awp_region 1 mixed (by kernel_rfl) ?_
  refine rg_q (q_a rfl) ?_
  refine rn ?_
  change Awp _ _ _ _ _
  refine awp_ret ?_
  refine ⟨_, (.cons (.tmp (by exact .d _)) .nil), ?_⟩
  rw [hz]; rfl
 ·
  (try simp only [nb, ne_eq] at hc1)
  have hlm : l.length = m.length := by omega
  refine awp_skip ?_
  change Awp _ _ _ _ _
  refine awp_seq ?_
  refine awp_seq ?_
  refine awp_region 1 mixed (by kernel_rfl) ?_
  refine rg_q (q_a rfl) ?_
  refine rn ?_
  change Awp _ _ _ _ _
  refine awp_block ?_
  refine awp_loopH [4, 5, 11, 12, 13, 14, 15, 16, 17, 18, 19, 20, 21, 22, 23, 24, 25, 26] [] (α := Nat) (fun k => [(5, T.i (k : Int))]) (fun k => []) (fun k => k ≤ l.length ∧ l.take k = m.take k) (fun k => l.length - k) 0 ⟨Nat.zero_le _, rfl⟩ ?_ ?_
  · exact le_head (ms := []) (by repeat (exact Out.refl _)) ⟨(by rfl), trivial⟩ trivial rfl rfl rfl rfl
  ·
   intro k ⟨hk, hf⟩
   refine awp_seq ?_
   refine awp_seq ?_
   refine awp_region 4 mixed (by kernel_rfl) ?_
   refine rg_q (q_m rfl) (rg_q (q_move (x := .d (.sl _ _)) rfl) ?_)
   refine rg_q (q_len isl72 rfl (by exact len_map _ _)) ?_
   refine rg_q (q_lss rfl rfl) ?_
   refine rn ?_
   change Awp _ _ _ _ _
   refine awp_len (t := 12) rfl (fun hl12 => ?_)
   (try simp only [List.length_map] at hl12)
   refine awp_cond rfl (fun hc4 => ?_) (fun hc4 => ?_)
   ·
    (try simp only [nb, ne_eq] at hc4)
    have hlt : k < l.length := by omega
    obtain ⟨x, hx⟩ : ∃ x, l[k]? = some x := ⟨_, List.getElem?_eq_getElem hlt⟩
    obtain ⟨y, hy⟩ : ∃ y, m[k]? = some y := ⟨_, List.getElem?_eq_getElem (by omega)⟩
    have hxy := sbB_is x y
    refine awp_skip ?_
    change Awp _ _ _ _ _
    refine awp_seq ?_
    refine awp_block ?_
    refine awp_seq ?_
    refine awp_region 10 mixed (by kernel_rfl) ?_
    refine rg_q (q_move (x := .d (.sl _ _)) rfl) (rg_q (q_m rfl) ?_)
    refine rg_q (q_indexAddr sl72 rfl rfl (by omega) (map_at (k := k) (by omega) hx)) ?_
    refine rg_q (q_load sz46 rfl rfl) (rg_q (q_move (x := .d (.sl _ _)) rfl) (rg_q (q_m rfl) ?_))
    refine rg_q (q_indexAddr sl72 rfl rfl (by omega) (map_at (k := k) (by omega) hy)) ?_
    refine rg_q (q_load sz46 rfl rfl) ?_
    refine rg_q (q_call en26 (.cons rfl (.cons rfl .nil)) rfl (sameBits_p x.1 x.2 y.1 y.2)) ?_
    refine rg_q (q_not rfl) ?_
    refine rn ?_
    change Awp _ _ _ _ _
    refine awp_cond rfl (fun hc6 => ?_) (fun hc6 => ?_)
    ·
     (try simp only [nb, ne_eq] at hc6)
     have hz : decide (l = m) = false := decide_eq_false (fun e => by rw [e, hy] at hx; have := Option.some.inj hx; subst this; rw [hc6] at hxy; simp at hxy)
     refine awp_seq ?_
     refine awp_region 1 mixed (by kernel_rfl) ?_
     refine rg_q (q_a rfl) ?_
     refine rn ?_
     change Awp _ _ _ _ _
     refine awp_ret ?_
     refine ⟨_, (.cons (.tmp (by exact .d _)) .nil), ?_⟩
     rw [hz]; rfl
    ·
     (try simp only [nb, ne_eq] at hc6)
     rw [hc6] at hxy
     have hxe : x = y := of_decide_eq_true hxy.symm
     have hnx : l.take (k + 1) = m.take (k + 1) := by rw [takeSnoc hx, takeSnoc hy, hf, hxe]
     refine awp_skip ?_
     change Awp _ _ _ _ _
     refine awp_region 3 mixed (by kernel_rfl) ?_
     refine rg_q (q_m rfl) ?_
     refine rg_q (q_add rfl rfl (In64.mk (by omega) (by omega))) ?_
     refine rg_q (q_a rfl) ?_
     refine rn ?_
     refine ⟨k + 1, ⟨by omega, hnx⟩, by omega, ?_⟩
     exact le_head (ms := []) (by repeat (first | exact Out.head rfl rfl | (refine Out.put ?_ rfl))) ⟨(by rfl), trivial⟩ trivial rfl rfl rfl rfl
   ·
    (try simp only [nb, ne_eq] at hc4)
    have hz : decide (l = m) = true := decide_eq_true (by rw [← List.take_of_length_le (l := l) (i := k) (by omega), hf, List.take_of_length_le (by omega)])
    refine awp_exit ?_
    change Awp _ _ _ _ _
    refine awp_seq ?_
    refine awp_region 1 mixed (by kernel_rfl) ?_
    refine rg_q (q_a rfl) ?_
    refine rn ?_
    change Awp _ _ _ _ _
    refine awp_ret ?_
    refine ⟨_, (.cons (.tmp (by exact .d _)) .nil), ?_⟩
    rw [hz]; rfl
end Go.Proofs.YtphlaicnmmglhaaGreat.Am.M
namespace Go.Proofs.YtphlaicnmmglhaaGreat.Am
open Go Go.RowKit
section
variable {P : Program} {w0 : Cx} {n : Nat} {s : Nat → Site} {ev : Operand → T} {dst : Option Tmp} {ty : TypeId} {pos : String} {after : Array Edge} {g : Option (Nat × Bool)}
theorem q_andNotE {t t' : TypeId} {x y : Operand} {k : IntKind} {a b c : Int} (hx : ev x = .d (.v (.int k a))) (hy : ev y = .d (.v (.int k b))) (h : bits .andNot k a b = c) : QOp P w0 n s ev ⟨dst, .binOp .andNot t x y t', ty, pos, after, g⟩ (.d (.v (.int k c))) :=
  q_bin hx hy (fun w => by
    subst h
    simp [eqGuard, binOp_andNot, intBits_andNot]) rfl
theorem q_extN {f : FuncId} {fn : Func} {e : Array Value → Sem Value} {y : Operand} {u : Value} {k : FloatKind} {at_ : Array TypeId} (hf : P.funcs[f]? = some fn) (hname : (fn.name == "runtime.NumGoroutine") = false) (hb : fn.body.isNone = true) (hn : Extern.findNext fn = none) (he : Extern.find fn = some e)
    (hev : ev (.func f) = .d (.fn (.func f) [])) (hy : ev y = .d (.v u)) (hr : ∀ w, ∃ b w', (e #[u]).run P w = .ok (.float k b) w' ∧ Ext w w' ∧ (k.decode b).isNaN = true) : QOp P w0 n s ev ⟨dst, .call ⟨.value (.func f), #[y], at_⟩, ty, pos, after, g⟩ (.d (.nan k)) :=
  .mk fun a w ok blk val h _ hnew => by
    have hv : a.eval y = u := RepT.v_eq (hy ▸ h y)
    obtain ⟨b, w', h1, h2, h3⟩ := hr w
    refine ⟨.float k b, w', ?_, h2, .nan k b h3⟩
    have hc := run_callFunc_extern (P := P) hf hname hb hn he #[u] w
    have hfv : a.eval (Operand.func f) = .func (.func f) #[] #[] := rfl
    simp [execOp, resolve, invoke, hv, hfv, Deferred.ofValue, hc, h1]
end
end Go.Proofs.YtphlaicnmmglhaaGreat.Am
namespace Go.Proofs.YtphlaicnmmglhaaGreat.Am.M
open Go

def absD : Ieee.Datum → Ieee.Datum
  | .number _ m e => .number false m e
  | .infinity _ => .infinity false
  | .nan _ t => .nan false t
theorem read_abs (b : Nat) : Ieee.double.read (b % 2 ^ 63) = absD (Ieee.double.read b) := by
  have e1 : Ieee.double.signWeight = 2 ^ 63 := rfl
  have h1 : b % 2 ^ 63 % 2 ^ 63 = b % 2 ^ 63 := Nat.mod_mod _ _
  have h2 : b % 2 ^ 63 / 2 ^ 63 % 2 = 0 := by rw [Nat.div_eq_of_lt (Nat.mod_lt _ (by decide))]
  unfold Ieee.Format.read
  simp only [e1, h1, h2]
  by_cases c1 : b % 2 ^ 63 < Ieee.double.binade
  · rw [if_pos c1, if_pos c1]; rfl
  · rw [if_neg c1, if_neg c1]
    by_cases c2 : b % 2 ^ 63 < Ieee.double.infRung
    · rw [if_pos c2, if_pos c2]; rfl
    · rw [if_neg c2, if_neg c2]
      by_cases c3 : b % 2 ^ 63 = Ieee.double.infRung
      · rw [if_pos c3, if_pos c3]; rfl
      · rw [if_neg c3, if_neg c3]; rfl
theorem num_abs {b : Nat} {s : Bool} {M : Nat} (h : Numb Ieee.double b s M) : Numb Ieee.double (b % 2 ^ 63) false M := by
  obtain ⟨m, e, h1, h2, h3⟩ := h
  exact ⟨m, e, by rw [read_abs, h1]; rfl, h2, h3⟩
def infB (b : Nat) : Bool := ordB .gtr (FloatKind.f64.format.order (b % 2 ^ 63) 9218868437227405311)
def MX : Nat := 9007199254740991 * 2 ^ (971 + KK)
theorem num_max : Numb Ieee.double 9218868437227405311 false MX := ⟨9007199254740991, 971, by decide +kernel, by omega, by
  rw [show ((971 : Int) + KK).toNat = 971 + KK by omega]; rfl⟩
theorem num_le {b : Nat} {s : Bool} {m : Nat} {e : Int} {M : Nat} (hr : Ieee.double.read b = .number s m e) (hM : m * 2 ^ (e + KK).toNat = M) : M ≤ MX := by
  obtain ⟨h1, h2, h3⟩ := read_num fmD hr
  have h4 : m ≤ 9007199254740991 := by
    have : (2 : Nat) ^ (52 + 1) = 9007199254740992 := by decide
    omega
  rw [← hM]
  unfold MX
  exact Nat.mul_le_mul h4 (Nat.pow_le_pow_right (by omega) (by omega))
theorem inf_num {b : Nat} {s : Bool} {m : Nat} {e : Int} {M : Nat} (hr : Ieee.double.read b = .number s m e) (hM : m * 2 ^ (e + KK).toNat = M) : infB b = false := by
  have hn := num_of fmD LD hr
  rw [hM] at hn
  have h := ob_gtr (num_abs hn) num_max
  have hle := num_le hr hM
  unfold infB
  refine h.trans (decide_eq_false ?_)
  unfold sgI
  rw [if_neg (by decide), if_neg (by decide)]
  omega
theorem inf_inf {b : Nat} {s : Bool} (hr : Ieee.double.read b = .infinity s) : infB b = true := by
  have h : Ieee.double.order (b % 2 ^ 63) 9218868437227405311 = some .gt := by
    unfold Ieee.Format.order
    rw [read_abs, hr]
    obtain ⟨m, e, h1, _, _⟩ := num_max
    rw [h1]; rfl
  have e : FloatKind.f64.format.order (b % 2 ^ 63) 9218868437227405311 = Ieee.double.order (b % 2 ^ 63) 9218868437227405311 := rfl
  unfold infB
  rw [e, h]; rfl
def tz64 (b : Nat) : Nat := Ieee.double.write ((Ieee.double.read b).integral .zero)
theorem tr_num {b : Nat} {s : Bool} {m : Nat} {e : Int} {M : Nat} (hr : Ieee.double.read b = .number s m e) (hM : m * 2 ^ (e + KK).toNat = M) : tz64 b = Ieee.double.nearest s (M / QQ) 0 := by
  have hge := (read_num fmD hr).2.1
  have hLD := LD
  unfold tz64
  rw [hr]
  unfold Ieee.Datum.integral
  simp only [cutz]
  show Ieee.double.nearest s _ 0 = _
  congr 1
  rw [Nat.shiftLeft_eq, ← hM]
  unfold QQ
  by_cases he : 0 ≤ e
  · have e1 : (-e).toNat = 0 := by omega
    have e2 : (e + KK).toNat = e.toNat + KK := by omega
    rw [e1, e2, Nat.pow_zero, Nat.div_one, Nat.pow_add, ← Nat.mul_assoc, Nat.mul_div_cancel _ (Nat.two_pow_pos _)]
  · have e1 : e.toNat = 0 := by omega
    obtain ⟨u, hu⟩ : ∃ u : Nat, u = (e + KK).toNat := ⟨_, rfl⟩
    obtain ⟨v, hv⟩ : ∃ v : Nat, v = (-e).toNat := ⟨_, rfl⟩
    have e2 : KK = u + v := by omega
    rw [e1, Nat.pow_zero, Nat.mul_one, ← hu, ← hv, e2, Nat.pow_add, Nat.mul_comm m, Nat.mul_div_mul_left _ _ (Nat.two_pow_pos _)]
theorem whole_num {f : Ieee.Format} {p L I : Nat} (h : Fm f p L I) (hL : L ≤ KK) {b : Nat} {s : Bool} {m : Nat} {e : Int} {M : Nat} (hr : f.read b = .number s m e) (hM : m * 2 ^ (e + KK).toNat = M) :
    Numb f (f.nearest s (M / QQ) 0) s (M / QQ * QQ) := by
  obtain ⟨h1, h2, h3⟩ := read_num h hr
  have hpl := h.pl
  have hli := h.li
  by_cases he : 0 ≤ e
  · have e2 : (e + KK).toNat = e.toNat + KK := by omega
    have hq : M / QQ = m * 2 ^ e.toNat := by
      rw [← hM, e2, Nat.pow_add, ← Nat.mul_assoc]
      exact Nat.mul_div_cancel _ QQ_pos
    have := num_near h s e.toNat 0 h1 hL (by omega) (fun _ => by omega) (fun h0 => by have := log_le h0 h1; omega)
    rw [show ((0 : Int) + KK).toNat = KK by omega, ← hq] at this
    exact this
  · have hlt : M / QQ < 2 ^ (p + 1) := by
      refine Nat.lt_of_le_of_lt ?_ h1
      refine Nat.div_le_of_le_mul ?_
      rw [← hM, Nat.mul_comm QQ]
      exact Nat.mul_le_mul_left _ (Nat.pow_le_pow_right (by omega) (by omega))
    have := num_near h s 0 0 hlt hL (by omega) (fun _ => by omega) (fun h0 => by have := log_le h0 hlt; omega)
    rw [Nat.pow_zero, Nat.mul_one, show ((0 : Int) + KK).toNat = KK by omega] at this
    exact this
def tneB (b : Nat) : Bool := if (FloatKind.f64.decode b).isNaN = true then true else ordB .neq (FloatKind.f64.format.order (tz64 b) b)
theorem tne_num {b : Nat} {s : Bool} {m : Nat} {e : Int} {M : Nat} (hr : Ieee.double.read b = .number s m e) (hM : m * 2 ^ (e + KK).toNat = M) : tneB b = !decide (M % QQ = 0) := by
  have hn := num_of fmD LD hr
  rw [hM] at hn
  have hw := whole_num fmD LD hr hM
  have h1 : (FloatKind.f64.decode b).isNaN = false := by
    show (Ieee.double.read b).isNaN = false
    rw [hr]; rfl
  unfold tneB
  rw [if_neg (by rw [h1]; decide), tr_num hr hM]
  have h2 : FloatKind.f64.format.order (Ieee.double.nearest s (M / QQ) 0) b = some (compare (sgI s (M / QQ * QQ)) (sgI s M)) := order_num hw hn
  rw [h2]
  have hd := Nat.div_add_mod M QQ
  rw [Nat.mul_comm] at hd
  have h3 := (cmp_some (sgI s (M / QQ * QQ)) (sgI s M)).1
  unfold ordB
  show (some (compare _ _) != some .eq) = _
  rw [bne, h3]
  congr 1
  refine decide_eq_decide.2 ?_
  rw [sg_eq]
  omega
theorem wh_is (b : Nat) : whD b = !(tneB b || infB b) := by
  cases hr : Ieee.double.read b with
  | nan s t =>
    have h1 : (FloatKind.f64.decode b).isNaN = true := by
      show (Ieee.double.read b).isNaN = true
      rw [hr]; rfl
    unfold whD tneB
    rw [hr, if_pos h1]; rfl
  | infinity s =>
    rw [inf_inf hr]
    unfold whD
    rw [hr, Bool.or_true]; rfl
  | number s m e =>
    obtain ⟨M, hM⟩ : ∃ M, m * 2 ^ (e + KK).toNat = M := ⟨_, rfl⟩
    rw [tne_num hr hM, inf_num hr hM]
    unfold whD
    rw [hr]
    simp only [hM]
    simp
def bgB (b : Nat) : Bool := ordB .gtr (FloatKind.f64.format.order (b % 2 ^ 63) 4711630319722168320)
def bgR (b : Nat) : Bool := ordB .gtr (FloatKind.f64.format.order b 4711630319722168320) || ordB .lss (FloatKind.f64.format.order b 13935002356576944128)
def vD (b : Nat) : Int :=
  match Ieee.double.read b with
  | .number s m e => sgI s (m * 2 ^ (e + KK).toNat / QQ)
  | _ => 0
theorem num_im : Numb Ieee.double 4711630319722168320 false (10000000 * QQ) := by
  have h := num_wd fmD LD (a := 10000000) (by decide)
  rw [show wd Ieee.double 10000000 = 4711630319722168320 by decide +kernel, show decide ((10000000 : Int) < 0) = false from rfl, show (10000000 : Int).natAbs = 10000000 from rfl] at h
  exact h
theorem num_mim : Numb Ieee.double 13935002356576944128 true (10000000 * QQ) := by
  have h := num_wd fmD LD (a := -10000000) (by decide)
  rw [show wd Ieee.double (-10000000) = 13935002356576944128 by decide +kernel, show decide ((-10000000 : Int) < 0) = true from rfl, show (-10000000 : Int).natAbs = 10000000 from rfl] at h
  exact h
theorem bg_num {b : Nat} {s : Bool} {M : Nat} (hn : Numb Ieee.double b s M) : bgB b = decide (10000000 * QQ < M) := by
  unfold bgB
  refine (ob_gtr (num_abs hn) num_im).trans (decide_eq_decide.2 ?_)
  unfold sgI
  rw [if_neg (by decide), if_neg (by decide)]
  exact Int.ofNat_lt
theorem bgR_num {b : Nat} {s : Bool} {M : Nat} (hn : Numb Ieee.double b s M) : bgR b = decide (10000000 * QQ < M) := by
  have h1 : ordB .gtr (FloatKind.f64.format.order b 4711630319722168320) = _ := ob_gtr hn num_im
  have h2 : ordB .lss (FloatKind.f64.format.order b 13935002356576944128) = _ := ob_lss hn num_mim
  unfold bgR
  rw [h1, h2, Bool.or_comm]
  generalize 10000000 * QQ = K
  rw [← Bool.decide_or]
  refine decide_eq_decide.2 ?_
  unfold sgI
  cases s <;> simp <;> omega
theorem wh_num {b : Nat} (h : whD b = true) : ∃ s m e, Ieee.double.read b = .number s m e ∧ m * 2 ^ (e + KK).toNat % QQ = 0 := by
  unfold whD at h
  cases hr : Ieee.double.read b with
  | nan s t => rw [hr] at h; cases h
  | infinity s => rw [hr] at h; cases h
  | number s m e => rw [hr] at h; exact ⟨s, m, e, rfl, of_decide_eq_true h⟩
theorem bg_is {b : Nat} (h : whD b = true) : bgR b = bgB b := by
  obtain ⟨s, m, e, hr, _⟩ := wh_num h
  have hn := num_of fmD LD hr
  rw [bg_num hn, bgR_num hn]
theorem div10 {M : Nat} (h : ¬ 10000000 * QQ < M) : M / QQ ≤ 10000000 := Nat.div_le_of_le_mul (by rw [Nat.mul_comm QQ]; exact Nat.le_of_not_lt h)
theorem vD_in {b : Nat} (h : whD b = true) (hb : bgB b = false) : (-10000000 ≤ vD b ∧ vD b ≤ 10000000) ∧ floatToIntVal .f64 b .i64 = some (vD b) := by
  obtain ⟨s, m, e, hr, _⟩ := wh_num h
  obtain ⟨M, hM⟩ : ∃ M, m * 2 ^ (e + KK).toNat = M := ⟨_, rfl⟩
  have hn := num_of fmD LD hr
  rw [hM] at hn
  rw [bg_num hn, decide_eq_false_iff_not] at hb
  have h1 : M / QQ ≤ 10000000 := div10 hb
  have hv : vD b = sgI s (M / QQ) := by unfold vD; rw [hr]; simp only [hM]
  rw [hv]
  exact ⟨(in_M (s := s) 10000000).2 h1, int_num (k := .f64) hn (by omega)⟩
theorem andNot_is (b : Nat) : bits .andNot .u64 (b : Int) 9223372036854775808 = ((b % 2 ^ 63 : Nat) : Int) := by
  unfold bits
  have e1 : (~~~BitVec.ofInt 64 9223372036854775808 : BitVec 64) = BitVec.ofNat 64 (2 ^ 63 - 1) := by decide
  have e2 : BitVec.ofInt 64 (b : Int) = BitVec.ofNat 64 b := by
    apply BitVec.eq_of_toNat_eq
    simp [BitVec.toNat_ofInt]
  show IntKind.u64.wrap ((BitVec.ofInt 64 (b : Int) &&& ~~~BitVec.ofInt 64 9223372036854775808 : BitVec 64).toNat) = _
  rw [e1, e2, BitVec.toNat_and, BitVec.toNat_ofNat, BitVec.toNat_ofNat, Nat.mod_eq_of_lt (show 2 ^ 63 - 1 < 2 ^ 64 by decide), Nat.and_two_pow_sub_one_eq_mod]
  have e3 : b % 2 ^ 64 % 2 ^ 63 = b % 2 ^ 63 := Nat.mod_mod_of_dvd _ (by decide)
  rw [e3]
  have h := Nat.mod_lt b (show 2 ^ 63 > 0 by decide)
  generalize b % 2 ^ 63 = c at h ⊢
  have e4 : IntKind.u64.bits = 64 := rfl
  have e5 : IntKind.u64.signed = false := rfl
  unfold IntKind.wrap
  simp [e4, e5]
  omega
theorem nan_quiet {b : Nat} {s : Bool} {t : Nat} (hr : Ieee.double.read b = .nan s t) : (FloatKind.f64.decode (FloatKind.f64.encode (.nan s (FloatKind.f64.format.quiet t)))).isNaN = true := by
  have h0 : FloatKind.f64.format.quiet t = t ||| 2 ^ 51 := rfl
  have hge : 2 ^ 51 ≤ t ||| 2 ^ 51 := Nat.right_le_or
  obtain ⟨q, hq⟩ : ∃ q, q = (t ||| 2 ^ 51) % 2 ^ 52 := ⟨_, rfl⟩
  have hq1 : 0 < q := by
    rw [hq]
    have : ((t ||| 2 ^ 51) % 2 ^ 52).testBit 51 = true := by
      rw [Nat.testBit_mod_two_pow, Nat.testBit_or, Nat.testBit_two_pow_self]; simp
    refine Nat.pos_of_ne_zero fun h => ?_
    rw [h] at this
    simp at this
  have hq2 : q < 2 ^ 52 := by rw [hq]; exact Nat.mod_lt _ (by decide)
  have e : FloatKind.f64.encode (.nan s (FloatKind.f64.format.quiet t)) = (if s = true then 2 ^ 63 else 0) + 0x7ff0000000000000 + q := by
    rw [h0, hq]
    have e3 : Ieee.double.infRung = 0x7ff0000000000000 := by decide +kernel
    have e4 : Ieee.double.binade = 2 ^ 52 := rfl
    have e5 : Ieee.double.signWeight = 2 ^ 63 := rfl
    show Ieee.double.word s (Ieee.double.infRung + (t ||| 2 ^ 51) % Ieee.double.binade) = _
    unfold Ieee.Format.word
    rw [e3, e4, e5]
    cases s <;> simp <;> omega
  rw [e]
  show (Ieee.double.read _).isNaN = true
  have := nan_d (if s = true then 1 else 0) (q - 1) (by cases s <;> decide) (by omega)
  rw [show (if s = true then 1 else 0) * 2 ^ 63 + 0x7ff0000000000000 + 1 + (q - 1) = (if s = true then 2 ^ 63 else 0) + 0x7ff0000000000000 + q by cases s <;> simp <;> omega] at this
  exact this
end Go.Proofs.YtphlaicnmmglhaaGreat.Am.M
-- mini
namespace Go.Proofs.YtphlaicnmmglhaaGreat.Am.M
open Go

def triG (q : Question) (b : Nat) : Ieee.Datum → Sem Value
  | .nan s t => if FloatKind.f64.format.quiet t = t then pure (.float .f64 b) else choose q >>= fun k => pure (.float .f64 (if k == 1 then b else FloatKind.f64.encode (.nan s (FloatKind.f64.format.quiet t))))
  | .infinity s => pure (.float .f64 (FloatKind.f64.encode (.infinity s)))
  | .number s m x => pure (.float .f64 (FloatKind.f64.encode ((Ieee.Datum.number s m x).integral .zero)))
theorem tri_is : ∃ q : Question, q.forced = false ∧ ∀ b : Nat, Extern.MathFloor.toIntegral "math.archTrunc" .zero #[.float .f64 b] = triG q b (FloatKind.f64.decode b) := by
  refine ⟨?q, ?h1, fun b => ?h2⟩
  case h2 =>
    show Extern.MathFloor.toIntegral.match_1 _ (FloatKind.f64.decode b) _ _ = _
    generalize FloatKind.f64.decode b = d
    cases d with
    | nan s t => rfl
    | infinity s => rfl
    | number s m x => rfl
  case h1 => rfl
theorem trun_num {P : Program} {b : Nat} (h : (FloatKind.f64.decode b).isNaN = false) (w : World) : (Extern.MathFloor.toIntegral "math.archTrunc" .zero #[.float .f64 b]).run P w = .ok (.float .f64 (tz64 b)) w := by
  obtain ⟨q, _, hq⟩ := tri_is
  have e : tz64 b = FloatKind.f64.encode ((FloatKind.f64.decode b).integral .zero) := rfl
  rw [e, hq]
  generalize FloatKind.f64.decode b = d at h ⊢
  cases d with
  | nan s t => cases h
  | infinity s => rfl
  | number s m x => rfl
theorem trun_nan {P : Program} {b : Nat} (h : (FloatKind.f64.decode b).isNaN = true) (w : World) : ∃ c w', (Extern.MathFloor.toIntegral "math.archTrunc" .zero #[.float .f64 b]).run P w = .ok (.float .f64 c) w' ∧ Ext w w' ∧ (FloatKind.f64.decode c).isNaN = true := by
  obtain ⟨q, hf, htr⟩ := tri_is
  have hq0 : ∀ s t, FloatKind.f64.decode b = .nan s t → (FloatKind.f64.decode (FloatKind.f64.encode (.nan s (FloatKind.f64.format.quiet t)))).isNaN = true := fun s t hr => nan_quiet (show Ieee.double.read b = .nan s t from hr)
  have hb := h
  rw [htr]
  generalize FloatKind.f64.decode b = d at h hq0 ⊢
  cases d with
  | infinity s => cases h
  | number s m x => cases h
  | nan s t =>
    unfold triG
    simp only
    by_cases hq : FloatKind.f64.format.quiet t = t
    · refine ⟨b, w, ?_, Ext.refl w, hb⟩
      rw [if_pos hq]; rfl
    · rw [if_neg hq]
      by_cases hk : q.cut (w.tape w.drawn q) = 1
      · exact ⟨b, w.drew, by simp [hf, hk], (Ext.refl w).drew, hb⟩
      · exact ⟨FloatKind.f64.encode (.nan s (FloatKind.f64.format.quiet t)), w.drew, by simp [hf, hk], (Ext.refl w).drew, hq0 s t rfl⟩
def trD (b : Nat) : D := if (FloatKind.f64.decode b).isNaN = true then .nan .f64 else .v (.float .f64 (tz64 b))
section
variable {P : Program} {w0 : Cx} {n : Nat} {s : Nat → Site} {ev : Operand → T} {dst : Option Tmp} {ty : TypeId} {pos : String} {after : Array Edge} {g : Option (Nat × Bool)}
theorem q_neqTr {t t' : TypeId} {x y : Operand} {b : Nat} (hx : ev x = .d (trD b)) (hy : ev y = .d (.v (.float .f64 b))) : QOp P w0 n s ev ⟨dst, .binOp .neq t x y t', ty, pos, after, g⟩ (T.bool (tneB b)) := by
  unfold trD at hx
  unfold tneB
  by_cases h : (FloatKind.f64.decode b).isNaN = true
  · rw [if_pos h] at hx ⊢
    exact q_fcmpN (by decide) hx hy rfl
  · rw [if_neg h] at hx ⊢
    exact q_fcmp (by decide) hx hy rfl
end
set_option maxRecDepth 100000 in
theorem abs_p (b : Nat) : PC Tryz.prog 193 [.v (.float .f64 (b))] (.v (.float .f64 (b % 2 ^ 63))) := by
 refine pc_of_awp Tryz.func193 rfl Tryz.ntmps193 (rs := [.tmp 2]) Tryz.results193 (by simp) fun w0 => ?_
 refine awp_seq ?_
 refine awp_region 1 mixed (by kernel_rfl) ?_
 refine rg_q (q_a rfl) ?_
 refine rs (awp_region 5 mixed (by kernel_rfl) ?_)
 refine rg_q (q_m rfl) ?_
 refine rg_q (q_ext1 (e := Extern.MathFloatBits.float64bits) Tryz.func98 (by kernel_rfl) (by kernel_rfl) (by kernel_rfl) (by kernel_rfl) rfl rfl (fun w => rfl) rfl) ?_
 refine rg_q (q_andNotE rfl rfl (andNot_is b)) ?_
 refine rg_q (q_ext1 (e := Extern.MathFloatBits.float64frombits) Tryz.func250 (by kernel_rfl) (by kernel_rfl) (by kernel_rfl) (by kernel_rfl) rfl rfl (fun w => rfl) rfl) ?_
 refine rg_q (q_a rfl) ?_
 refine rn ?_
 change Awp _ _ _ _ _
 refine awp_ret ?_
 refine ⟨_, (.cons (.tmp (by exact .d _)) .nil), ?_⟩
 rfl
set_option maxRecDepth 100000 in
theorem isInf_p (b : Nat) : PC Tryz.prog 192 [.v (.float .f64 (b)), .v (.int .i64 (0))] (.v (.bool (infB b))) := by
 refine pc_of_awp Tryz.func192 rfl Tryz.ntmps192 (rs := [.tmp 4]) Tryz.results192 (by simp) fun w0 => ?_
 refine awp_seq ?_
 refine awp_region 1 mixed (by kernel_rfl) ?_
 refine rg_q (q_a rfl) ?_
 refine rn ?_
 change Awp _ _ _ _ _
 refine awp_seq ?_
 refine awp_seq ?_
 refine awp_region 2 mixed (by kernel_rfl) ?_
 refine rg_q (q_m rfl) (rg_q (q_eql rfl rfl) ?_)
 refine rn ?_
 change Awp _ _ _ _ _
 refine awp_cond rfl (fun hc1 => ?_) (fun hc1 => ?_)
 ·
  (try simp only [nb, ne_eq] at hc1)
  refine awp_region 3 mixed (by kernel_rfl) ?_
  refine rg_q (q_m rfl) ?_
  refine rg_q (q_call en193 (.cons rfl .nil) rfl (abs_p _)) ?_
  refine rg_q (q_a rfl) ?_
  refine rs (awp_region 3 mixed (by kernel_rfl) ?_)
  refine rg_q (q_m rfl) ?_
  refine rg_q (q_fcmp (by decide) rfl rfl rfl) ?_
  refine rg_q (q_a rfl) ?_
  refine rn ?_
  change Awp _ _ _ _ _
  refine awp_ret ?_
  refine ⟨_, (.cons (.tmp (by exact .d _)) .nil), ?_⟩
  rfl
 ·
  simp at hc1
set_option maxRecDepth 100000 in
theorem truncW_p (b : Nat) (h : (FloatKind.f64.decode b).isNaN = false) : PC Tryz.prog 191 [.v (.float .f64 (b))] (.v (.float .f64 (tz64 b))) := by
 refine pc_of_awp Tryz.func191 rfl Tryz.ntmps191 (rs := [.tmp 2]) Tryz.results191 (by simp) fun w0 => ?_
 refine awp_seq ?_
 refine awp_region 1 mixed (by kernel_rfl) ?_
 refine rg_q (q_a rfl) ?_
 refine rn ?_
 change Awp _ _ _ _ _
 refine awp_seq ?_
 refine awp_cond rfl (fun hc0 => ?_) (fun hc0 => ?_)
 ·
  (try simp only [nb, ne_eq] at hc0)
  refine awp_seq ?_
  refine awp_region 3 mixed (by kernel_rfl) ?_
  refine rg_q (q_m rfl) ?_
  refine rg_q (q_ext1 (e := Extern.MathFloor.toIntegral "math.archTrunc" .zero) Tryz.func248 (by kernel_rfl) (by kernel_rfl) (by kernel_rfl) (by kernel_rfl) rfl rfl (fun w => trun_num h w) rfl) ?_
  refine rg_q (q_a rfl) ?_
  refine rn ?_
  change Awp _ _ _ _ _
  refine awp_ret ?_
  refine ⟨_, (.cons (.tmp (by exact .d _)) .nil), ?_⟩
  rfl
 ·
  cases hc0
set_option maxRecDepth 100000 in
theorem truncN_p (b : Nat) (h : (FloatKind.f64.decode b).isNaN = true) : PC Tryz.prog 191 [.v (.float .f64 (b))] (.nan .f64) := by
 refine pc_of_awp Tryz.func191 rfl Tryz.ntmps191 (rs := [.tmp 2]) Tryz.results191 (by simp) fun w0 => ?_
 refine awp_seq ?_
 refine awp_region 1 mixed (by kernel_rfl) ?_
 refine rg_q (q_a rfl) ?_
 refine rn ?_
 change Awp _ _ _ _ _
 refine awp_seq ?_
 refine awp_cond rfl (fun hc0 => ?_) (fun hc0 => ?_)
 ·
  (try simp only [nb, ne_eq] at hc0)
  refine awp_seq ?_
  refine awp_region 3 mixed (by kernel_rfl) ?_
  refine rg_q (q_m rfl) ?_
  refine rg_q (q_extN (e := Extern.MathFloor.toIntegral "math.archTrunc" .zero) Tryz.func248 (by kernel_rfl) (by kernel_rfl) (by kernel_rfl) (by kernel_rfl) rfl rfl (fun w => trun_nan h w)) ?_
  refine rg_q (q_assign (x := .d (.nan _)) rfl) ?_
  refine rn ?_
  change Awp _ _ _ _ _
  refine awp_ret ?_
  refine ⟨_, (.cons (.tmp (by exact .d _)) .nil), ?_⟩
  rfl
 ·
  cases hc0

theorem trunc_p (b : Nat) : PC Tryz.prog 191 [.v (.float .f64 b)] (trD b) := by
  unfold trD
  by_cases h : (FloatKind.f64.decode b).isNaN = true
  · rw [if_pos h]; exact truncN_p b h
  · rw [if_neg h]; exact truncW_p b (by simpa using h)
def pN (z : Nat × Nat) (i : Nat) : Nat := if i = 0 then z.1 else z.2
theorem pN_at {z : Nat × Nat} {i : Nat} (h : i < 2) : ([.v (.float .f64 z.1), .v (.float .f64 z.2)] : List D)[((i : Nat) : Int).toNat]? = some (.v (.float .f64 (pN z i))) := by rcases two i h with rfl | rfl <;> rfl
def peI (z : Nat × Nat) : Int := if (whD z.1 && whD z.2) = true then whenI (bgB z.1 || bgB z.2) 2 else 25
theorem peI_bad {z : Nat × Nat} {i : Nat} (hi : i < 2) (h : whD (pN z i) = false) : peI z = 25 := by
  unfold peI
  rcases two i hi with rfl | rfl
  · rw [show whD z.1 = false from h, if_neg (by simp)]
  · rw [show whD z.2 = false from h, if_neg (by simp)]
set_option maxRecDepth 100000 in
theorem partErr_p (z : Nat × Nat) : PC Tryz.prog 127 [cvD z] (.v (.int .i64 (peI z))) := by
 refine pc_of_awpN Tryz.func127 rfl Tryz.ntmps127 (rs := [.tmp 2]) Tryz.results127 (by simp) fun w0 hmine hrnd hpn => ?_
 refine awp_seq ?_
 refine awp_region 1 mixed (by kernel_rfl) ?_
 refine rg_q (q_a rfl) ?_
 refine rs (awp_region 5 mixed (by kernel_rfl) ?_)
 refine rg_q (q_m rfl) ?_
 refine rg_q (q_real rfl) ?_
 refine rg_q (q_m rfl) ?_
 refine rg_q (q_imag rfl) ?_
 refine rg_q (q_buildA (cs := [_, _]) ar285 zr285 rfl (.cons rfl (by exact .inl rfl) (.cons rfl (by exact .inl rfl) .nil)) ⟨⟨rfl, by decide⟩, ⟨rfl, by decide⟩, trivial⟩ rfl) ?_
 refine rg_nil ?_
 refine aops_allocD zr285 rfl sz285 rfl rfl (by exact .inr ⟨_, rfl⟩) rfl rfl ?_
 refine aops_nil ?_
 change Awp _ _ _ _ _
 refine awp_seq ?_
 refine awp_seq ?_
 refine awp_region 2 mixed (by kernel_rfl) ?_
 refine rg_q (q_loadA (ds := [_, _]) sz285 rfl rfl rfl) ?_
 refine rg_q (q_m rfl) ?_
 refine rn ?_
 change Awp _ _ _ _ _
 refine awp_block ?_
 refine awp_loopH [2, 5, 12, 13, 14, 15, 16, 17, 18, 19, 20, 21, 22, 23] [] (α := Nat) (fun j => [(12, T.i (j : Int))]) (fun j => []) (fun j => j ≤ 2 ∧ ∀ i, i < j → whD (pN z i) = true) (fun j => 2 - j) 0 ⟨by decide, fun i h => absurd h (by omega)⟩ ?_ ?_
 · exact le_head (ms := []) (by repeat (exact Out.refl _)) ⟨(by rfl), trivial⟩ trivial rfl rfl rfl rfl
 ·
  intro j ⟨hj, hall⟩
  refine awp_seq ?_
  refine awp_region 1 mixed (by kernel_rfl) ?_
  refine rg_q (q_lss rfl rfl) ?_
  refine rn ?_
  change Awp _ _ _ _ _
  refine awp_seq ?_
  refine awp_cond rfl (fun hc3 => ?_) (fun hc3 => ?_)
  ·
   (try simp only [nb, ne_eq] at hc3)
   have hj2 : j < 2 := by omega
   have hwi := wh_is (pN z j)
   refine awp_skip ?_
   change Awp _ _ _ _ _
   refine awp_seq ?_
   refine awp_block ?_
   refine awp_seq ?_
   refine awp_region 2 mixed (by kernel_rfl) ?_
   refine rg_q (q_index_ar ar285 sz167 rfl rfl (by omega) (by omega) (pN_at hj2)) ?_
   refine rg_q (q_a rfl) ?_
   refine rs (awp_region 8 mixed (by kernel_rfl) ?_)
   refine rg_q (q_m rfl) ?_
   refine rg_q (q_call en191 (.cons rfl .nil) rfl (trunc_p (pN z j))) ?_
   refine rg_q (q_m rfl) ?_
   refine rg_q (q_neqTr rfl rfl) ?_
   refine rg_q (q_m rfl) ?_
   refine rg_g rfl rfl (fun hG => (q_m rfl)) ?_
   refine rg_g rfl rfl (fun hG => (q_call en192 (.cons rfl (.cons rfl .nil)) rfl (isInf_p (pN z j)))) ?_
   refine rg_pick rfl rfl rfl rfl rfl rfl ?_
   refine rn ?_
   change Awp _ _ _ _ _
   refine awp_cond rfl (fun hc5 => ?_) (fun hc5 => ?_)
   ·
    (try simp only [nb, ne_eq] at hc5)
    have hz : peI z = 25 := peI_bad hj2 (by rw [hwi]; rcases hc5 with q | q <;> simp [q])
    refine awp_seq ?_
    refine awp_region 1 mixed (by kernel_rfl) ?_
    refine rg_q (q_a rfl) ?_
    refine rn ?_
    change Awp _ _ _ _ _
    refine awp_ret ?_
    refine ⟨_, (.cons (.tmp (by exact .d _)) .nil), ?_⟩
    rw [hz]; (try simp only [bif_or]); rfl
   ·
    (try simp only [nb, ne_eq] at hc5)
    have hwt : whD (pN z j) = true := by rw [hwi, hc5.1, hc5.2]; rfl
    refine awp_skip ?_
    change Awp _ _ _ _ _
    refine awp_region 2 mixed (by kernel_rfl) ?_
    refine rg_q (q_add rfl rfl (In64.mk (by omega) (by omega))) ?_
    refine rg_q (q_m rfl) ?_
    refine rn ?_
    refine ⟨j + 1, ⟨by omega, fun i hi => by
    by_cases q : i = j
    · subst q; exact hwt
    · exact hall i (by omega)⟩, by omega, ?_⟩
    exact le_head (ms := []) (by repeat (first | exact Out.head rfl rfl | (refine Out.put ?_ rfl))) ⟨(by rfl), trivial⟩ trivial rfl rfl rfl rfl
  ·
   (try simp only [nb, ne_eq] at hc3)
   have hj2 : j = 2 := by omega
   have h0 := hall 0 (by omega)
   have h1 := hall 1 (by omega)
   have hz : peI z = whenI (bgB z.1 || bgB z.2) 2 := by unfold peI; rw [if_pos (by rw [show whD z.1 = true from h0, show whD z.2 = true from h1]; rfl)]
   refine awp_exit ?_
   change Awp _ _ _ _ _
   refine awp_seq ?_
   refine awp_region 12 mixed (by kernel_rfl) ?_
   refine rg_q (q_indexAddr_ar ar285 rfl rfl (by omega) (by omega)) ?_
   refine rg_q (q_load sz167 rfl rfl) ?_
   refine rg_q (q_call en193 (.cons rfl .nil) rfl (abs_p _)) ?_
   refine rg_q (q_fcmp (by decide) rfl rfl rfl) ?_
   refine rg_q (q_m rfl) ?_
   refine rg_g rfl rfl (fun hG => (q_indexAddr_ar ar285 rfl rfl (by (have hg0 := T.bool_inj (a := _) hG.1; (try simp only [nb, ne_eq] at hg0); omega)) (by (have hg0 := T.bool_inj (a := _) hG.1; (try simp only [nb, ne_eq] at hg0); omega)))) ?_
   refine rg_g rfl rfl (fun hG => (q_load sz167 rfl rfl)) ?_
   refine rg_g rfl rfl (fun hG => (q_call en193 (.cons rfl .nil) rfl (abs_p _))) ?_
   refine rg_g rfl rfl (fun hG => (q_fcmp (by decide) rfl rfl rfl)) ?_
   refine rg_pick rfl rfl rfl rfl rfl rfl ?_
   refine rg_q (q_call en88 (.cons rfl (.cons rfl .nil)) rfl (fwhen_p _ _)) ?_
   refine rg_q (q_a rfl) ?_
   refine rn ?_
   change Awp _ _ _ _ _
   refine awp_ret ?_
   refine ⟨_, (.cons (.tmp (by exact .d _)) .nil), ?_⟩
   rw [hz]; (try simp only [bif_or]); rfl

theorem pe_ok {z : Nat × Nat} (h : peI z = 0) : (whD z.1 = true ∧ whD z.2 = true) ∧ bgB z.1 = false ∧ bgB z.2 = false := by
  unfold peI at h
  by_cases h1 : (whD z.1 && whD z.2) = true
  · rw [if_pos h1, when_zero (by decide), Bool.or_eq_false_iff] at h
    rw [Bool.and_eq_true] at h1
    exact ⟨h1, h⟩
  · rw [if_neg h1] at h; cases h
def vZ (z : Nat × Nat) : Int × Int := (vD z.1, vD z.2)
set_option maxRecDepth 100000 in
theorem sumOf_p (z : Nat × Nat) (hz0 : peI z = 0) : PC Tryz.prog 128 [cvD z] (.agg (shC (vZ z))) := by
 obtain ⟨⟨w1, w2⟩, b1, b2⟩ := pe_ok hz0
 obtain ⟨⟨v1, v2⟩, v3⟩ := vD_in w1 b1
 obtain ⟨⟨v4, v5⟩, v6⟩ := vD_in w2 b2
 refine pc_of_awp Tryz.func128 rfl Tryz.ntmps128 (rs := [.cell 2 160]) Tryz.results128 (by simp) fun w0 => ?_
 refine awp_seq ?_
 refine awp_region 0 mixed (by kernel_rfl) ?_
 refine rg_nil ?_
 refine aops_alloc zr160 rfl rfl rfl ?_
 refine aops_nil ?_
 change Awp _ _ _ _ _
 refine awp_seq ?_
 refine awp_region 7 mixed (by kernel_rfl) ?_
 refine rg_q (q_m rfl) ?_
 refine rg_q (q_real rfl) ?_
 refine rg_q (q_convfi flt167 int3 rfl v3) ?_
 refine rg_q (q_m rfl) ?_
 refine rg_q (q_imag rfl) ?_
 refine rg_q (q_convfi flt167 int3 rfl v6) ?_
 refine rg_q (q_build (cs := [_, _]) pl160 zr160 rfl (.cons rfl (by exact .inl rfl) (.cons rfl (by exact .inl rfl) .nil)) ⟨⟨rfl, by decide⟩, ⟨rfl, by decide⟩, trivial⟩ rfl) ?_
 refine rg_nil ?_
 refine aops_store sz160 rfl rfl (by exact .inr ⟨_, rfl⟩) rfl rfl (by decide) rfl ?_
 refine aops_nil ?_
 change Awp _ _ _ _ _
 refine awp_ret ?_
 refine ⟨_, (.cons (.cellA rfl rfl sz160 rfl) .nil), ?_⟩
 rfl
set_option maxRecDepth 100000 in
theorem partsD_p (z : Nat × Nat) (hz0 : peI z = 0) : PC Tryz.prog 29 [cvD z] (.tup [.v (.int .i64 ((vZ z).1)), .v (.int .i64 ((vZ z).2))]) := by
 obtain ⟨⟨w1, w2⟩, b1, b2⟩ := pe_ok hz0
 obtain ⟨⟨v1, v2⟩, v3⟩ := vD_in w1 b1
 obtain ⟨⟨v4, v5⟩, v6⟩ := vD_in w2 b2
 refine pc_of_awp Tryz.func29 rfl Tryz.ntmps29 (rs := [.tmp 2, .tmp 3]) Tryz.results29 (by simp) fun w0 => ?_
 refine awp_seq ?_
 refine awp_region 2 mixed (by kernel_rfl) ?_
 refine rg_q (q_a rfl) (rg_q (q_a rfl) ?_)
 refine rs (awp_region 8 mixed (by kernel_rfl) ?_)
 refine rg_q (q_m rfl) ?_
 refine rg_q (q_real rfl) ?_
 refine rg_q (q_convfi flt167 int3 rfl v3) ?_
 refine rg_q (q_m rfl) ?_
 refine rg_q (q_imag rfl) ?_
 refine rg_q (q_convfi flt167 int3 rfl v6) ?_
 refine rg_q (q_a rfl) (rg_q (q_a rfl) ?_)
 refine rn ?_
 change Awp _ _ _ _ _
 refine awp_ret ?_
 refine ⟨_, (.cons (.tmp (by exact .d _)) (.cons (.tmp (by exact .d _)) .nil)), ?_⟩
 rfl

def veR (z : Nat × Nat) : (Int × Int) × Int := if peI z ≠ 0 then ((0, 0), peI z) else (vZ z, 0)
set_option maxRecDepth 100000 in
theorem valueErr_p (z : Nat × Nat) : PC Tryz.prog 129 [cvD z] (.tup [.v (.int .i64 ((veR z).1.1)), .v (.int .i64 ((veR z).1.2)), .v (.int .i64 ((veR z).2))]) := by
 refine pc_of_awp Tryz.func129 rfl Tryz.ntmps129 (rs := [.tmp 2, .tmp 3, .tmp 4]) Tryz.results129 (by simp) fun w0 => ?_
 refine awp_seq ?_
 refine awp_region 3 mixed (by kernel_rfl) ?_
 refine rg_q (q_a rfl) (rg_q (q_a rfl) (rg_q (q_a rfl) ?_))
 refine rs (awp_region 6 mixed (by kernel_rfl) ?_)
 refine rg_q (q_m rfl) ?_
 refine rg_q (q_real rfl) ?_
 refine rg_q (q_m rfl) ?_
 refine rg_q (q_imag rfl) ?_
 refine rg_q (q_a rfl) (rg_q (q_a rfl) ?_)
 refine rn ?_
 change Awp _ _ _ _ _
 refine awp_seq ?_
 refine awp_seq ?_
 refine awp_region 8 mixed (by kernel_rfl) ?_
 refine rg_q (q_m rfl) ?_
 refine rg_q (q_call en194 (.cons rfl .nil) rfl (isWhole_p _)) ?_
 refine rg_q (q_not rfl) (rg_q (q_m rfl) ?_)
 refine rg_g rfl rfl (fun hG => (q_m rfl)) ?_
 refine rg_g rfl rfl (fun hG => (q_call en194 (.cons rfl .nil) rfl (isWhole_p _))) ?_
 refine rg_g rfl rfl (fun hG => (q_not rfl)) ?_
 refine rg_pick rfl rfl rfl rfl rfl rfl ?_
 refine rn ?_
 change Awp _ _ _ _ _
 refine awp_cond rfl (fun hc2 => ?_) (fun hc2 => ?_)
 ·
  (try simp only [nb, ne_eq] at hc2)
  have hp : peI z = 25 := by unfold peI; rw [if_neg (by rcases hc2 with q | q <;> simp [q])]
  have hz : veR z = ((0, 0), 25) := by unfold veR; rw [hp]; rfl
  refine awp_seq ?_
  refine awp_region 3 mixed (by kernel_rfl) ?_
  refine rg_q (q_a rfl) (rg_q (q_a rfl) (rg_q (q_a rfl) ?_))
  refine rn ?_
  change Awp _ _ _ _ _
  refine awp_ret ?_
  refine ⟨_, (.cons (.tmp (by exact .d _)) (.cons (.tmp (by exact .d _)) (.cons (.tmp (by exact .d _)) .nil))), ?_⟩
  rw [hz]; rfl
 ·
  (try simp only [nb, ne_eq] at hc2)
  obtain ⟨w1, w2⟩ := hc2
  have hp0 : peI z = whenI (bgB z.1 || bgB z.2) 2 := by unfold peI; rw [w1, w2]; rfl
  rw [← bg_is w1, ← bg_is w2] at hp0
  refine awp_skip ?_
  change Awp _ _ _ _ _
  refine awp_seq ?_
  refine awp_seq ?_
  refine awp_region 14 mixed (by kernel_rfl) ?_
  refine rg_q (q_m rfl) ?_
  refine rg_q (q_fcmp (by decide) rfl rfl rfl) ?_
  refine rg_q (q_m rfl) ?_
  refine rg_g rfl rfl (fun hG => (q_m rfl)) ?_
  refine rg_g rfl rfl (fun hG => (q_fcmp (by decide) rfl rfl rfl)) ?_
  refine rg_pick rfl rfl rfl rfl rfl rfl ?_
  refine rg_q (q_m rfl) ?_
  refine rg_g rfl rfl (fun hG => (q_m rfl)) ?_
  refine rg_g rfl rfl (fun hG => (q_fcmp (by decide) rfl rfl rfl)) ?_
  refine rg_pick rfl rfl rfl rfl rfl rfl ?_
  refine rg_q (q_m rfl) ?_
  refine rg_g rfl rfl (fun hG => (q_m rfl)) ?_
  refine rg_g rfl rfl (fun hG => (q_fcmp (by decide) rfl rfl rfl)) ?_
  refine rg_pick rfl rfl rfl rfl rfl rfl ?_
  refine rn ?_
  change Awp _ _ _ _ _
  refine awp_cond rfl (fun hc4 => ?_) (fun hc4 => ?_)
  ·
   (try simp only [nb, ne_eq] at hc4)
   have hp : peI z = 2 := by rw [hp0]; unfold whenI; rw [if_pos (by rcases hc4 with ((q | q) | q) | q <;> simp [bgR, q])]
   have hz : veR z = ((0, 0), 2) := by unfold veR; rw [hp]; rfl
   refine awp_seq ?_
   refine awp_region 3 mixed (by kernel_rfl) ?_
   refine rg_q (q_a rfl) (rg_q (q_a rfl) (rg_q (q_a rfl) ?_))
   refine rn ?_
   change Awp _ _ _ _ _
   refine awp_ret ?_
   refine ⟨_, (.cons (.tmp (by exact .d _)) (.cons (.tmp (by exact .d _)) (.cons (.tmp (by exact .d _)) .nil))), ?_⟩
   rw [hz]; rfl
  ·
   (try simp only [nb, ne_eq] at hc4)
   obtain ⟨⟨⟨q1, q2⟩, q3⟩, q4⟩ := hc4
   have hz0 : peI z = 0 := by rw [hp0]; simp [bgR, q1, q2, q3, q4, whenI]
   have hz : veR z = (vZ z, 0) := by unfold veR; rw [if_neg (fun q => q hz0)]
   refine awp_skip ?_
   change Awp _ _ _ _ _
   refine awp_seq ?_
   refine awp_region 7 mixed (by kernel_rfl) ?_
   refine rg_q (q_m rfl) ?_
   refine rg_q (q_call en29 (.cons rfl .nil) rfl (partsD_p z hz0)) ?_
   refine rg_q (q_move (x := .d (.tup _)) rfl) (rg_q (q_extract rfl rfl) (rg_q (q_extract rfl rfl) (rg_q (q_a rfl) (rg_q (q_a rfl) ?_))))
   refine rs (awp_region 5 mixed (by kernel_rfl) ?_)
   refine rg_q (q_m rfl) (rg_q (q_m rfl) (rg_q (q_a rfl) (rg_q (q_a rfl) (rg_q (q_a rfl) ?_))))
   refine rn ?_
   change Awp _ _ _ _ _
   refine awp_ret ?_
   refine ⟨_, (.cons (.tmp (by exact .d _)) (.cons (.tmp (by exact .d _)) (.cons (.tmp (by exact .d _)) .nil))), ?_⟩
   rw [hz]; rfl
end Go.Proofs.YtphlaicnmmglhaaGreat.Am.M
-- mini
namespace Go.Proofs.YtphlaicnmmglhaaGreat.Am.M
open Go

def imC (x : List (Nat × Nat)) : List D := [.sl 1 (x.map cvC)]
def hdN (l : List (List (Nat × Nat))) : Nat := (l.getD 0 []).length
theorem hd_at {l : List (List (Nat × Nat))} (h : 0 < l.length) : l[0]? = some (l.getD 0 []) := by
  rw [List.getD_eq_getElem?_getD, List.getElem?_eq_getElem h]; rfl
def neqB (l : List (List (Nat × Nat))) (x : List (Nat × Nat)) : Bool := decide (x.length ≠ hdN l)
def atZ (x : List (Nat × Nat)) (k : Nat) : Nat × Nat := x.getD k (0, 0)
theorem atZ_at {x : List (Nat × Nat)} {k : Nat} (h : k < x.length) : x[k]? = some (atZ x k) := by
  unfold atZ
  rw [List.getD_eq_getElem?_getD, List.getElem?_eq_getElem h]; rfl
def colZ (l : List (List (Nat × Nat))) (k : Nat) : List (Nat × Nat) := l.map fun x => atZ x k
theorem colZ_len (l : List (List (Nat × Nat))) (k : Nat) : (colZ l k).length = l.length := List.length_map _
theorem colZ_at {l : List (List (Nat × Nat))} {i : Nat} {x : List (Nat × Nat)} (k : Nat) (h : l[i]? = some x) : (colZ l k)[i]? = some (atZ x k) := by unfold colZ; rw [List.getElem?_map, h]; rfl
def peS : List (Nat × Nat) → Int
  | [] => 0
  | z :: r => if peI z ≠ 0 then peI z else peS r
theorem peS_at {c : List (Nat × Nat)} {i : Nat} {z : Nat × Nat} (h : c[i]? = some z) : peS (c.drop i) = if peI z ≠ 0 then peI z else peS (c.drop (i + 1)) := by
  obtain ⟨hlt, rfl⟩ := List.getElem?_eq_some_iff.1 h
  rw [List.drop_eq_getElem_cons hlt]; rfl
def smF (s : Int × Int) (z : Nat × Nat) : Int × Int := (s.1 + (vZ z).1, s.2 + (vZ z).2)
def smS (c : List (Nat × Nat)) : Int × Int := c.foldl smF (0, 0)
theorem smS_snoc {c : List (Nat × Nat)} {i : Nat} {z : Nat × Nat} (h : c[i]? = some z) : smS (c.take (i + 1)) = smF (smS (c.take i)) z := by
  unfold smS
  rw [takeSnoc h, List.foldl_append]; rfl
theorem vZ_in {z : Nat × Nat} (h : peI z = 0) : (-10000000 ≤ (vZ z).1 ∧ (vZ z).1 ≤ 10000000) ∧ -10000000 ≤ (vZ z).2 ∧ (vZ z).2 ≤ 10000000 := by
  obtain ⟨⟨w1, w2⟩, b1, b2⟩ := pe_ok h
  exact ⟨(vD_in w1 b1).1, (vD_in w2 b2).1⟩
theorem smS_in {c : List (Nat × Nat)} : ∀ i : Nat, i ≤ c.length → (∀ z ∈ c.take i, peI z = 0) → (-(10000000 * (i : Int)) ≤ (smS (c.take i)).1 ∧ (smS (c.take i)).1 ≤ 10000000 * (i : Int)) ∧ -(10000000 * (i : Int)) ≤ (smS (c.take i)).2 ∧ (smS (c.take i)).2 ≤ 10000000 * (i : Int)
  | 0, _, _ => by
    have e : smS (c.take 0) = (0, 0) := rfl
    rw [e]
    decide
  | i + 1, hi, h => by
    have hz : c[i]? = some c[i] := List.getElem?_eq_getElem (by omega)
    have h1 := smS_in (c := c) i (by omega) (fun z q => h z (by rw [takeSnoc hz]; exact List.mem_append_left _ q))
    have h2 := vZ_in (h c[i] (by rw [takeSnoc hz]; exact List.mem_append_right _ (List.mem_singleton.2 rfl)))
    rw [smS_snoc hz]
    unfold smF
    simp only
    omega
def mgS (l : List (List (Nat × Nat))) : Nat → Nat → Int
  | _, 0 => 0
  | k, m + 1 => if peS (colZ l k) ≠ 0 then peS (colZ l k) else mgS l (k + 1) m
theorem mgS_at {l : List (List (Nat × Nat))} {k n : Nat} (h : k < n) : mgS l k (n - k) = if peS (colZ l k) ≠ 0 then peS (colZ l k) else mgS l (k + 1) (n - (k + 1)) := by
  obtain ⟨m, hm⟩ : ∃ m, n - k = m + 1 := ⟨n - k - 1, by omega⟩
  rw [hm, show n - (k + 1) = m by omega]; rfl
def smL (l : List (List (Nat × Nat))) (n : Nat) : List (Int × Int) := (List.range n).map fun k => smS (colZ l k)
theorem smL_succ (l : List (List (Nat × Nat))) (n : Nat) : smL l (n + 1) = smL l n ++ [smS (colZ l n)] := by unfold smL; rw [List.range_succ, List.map_append]; rfl
theorem smL_len (l : List (List (Nat × Nat))) (n : Nat) : (smL l n).length = n := by unfold smL; rw [List.length_map, List.length_range]
def mgR (l : List (List (Nat × Nat))) : List (Nat × Nat) × Int :=
  if (decide (l.length = 0) || l.any (neqB l)) = true then ([], 10)
  else if 16 < l.length ∨ 1600 < hdN l then ([], 8)
  else if mgS l 0 (hdN l) ≠ 0 then ([], mgS l 0 (hdN l))
  else ((smL l (hdN l)).map czP, 0)
def esR (l : List (List (Nat × Nat))) (n k i : Nat) : List (List D) := (List.range n).map fun j => shC (if j < k then smS (colZ l j) else if j = k then smS ((colZ l k).take i) else (0, 0))
theorem esR_len (l : List (List (Nat × Nat))) (n k i : Nat) : (esR l n k i).length = n := by unfold esR; rw [List.length_map, List.length_range]
theorem esR_at {l : List (List (Nat × Nat))} {n k i : Nat} (h : k < n) : (esR l n k i)[k]? = some (shC (smS ((colZ l k).take i))) := by
  unfold esR
  rw [List.getElem?_map, List.getElem?_range h]
  show some (shC _) = _
  rw [if_neg (by omega), if_pos rfl]
theorem esR_set {l : List (List (Nat × Nat))} {n k i : Nat} (h : k < n) {p : Int × Int} (hp : smS ((colZ l k).take (i + 1)) = p) : (esR l n k i).set k (setCs (shC (smS ((colZ l k).take i))) 0 [.v (.int .i64 p.1), .v (.int .i64 p.2)]) = esR l n k (i + 1) := by
  have e : setCs (shC (smS ((colZ l k).take i))) 0 [.v (.int .i64 p.1), .v (.int .i64 p.2)] = shC p := rfl
  rw [e]
  apply List.ext_getElem?
  intro j
  rw [List.getElem?_set]
  by_cases hj : k = j
  · subst hj
    rw [if_pos rfl, if_pos (by rw [esR_len]; exact h), esR_at h, hp]
  · rw [if_neg hj]
    unfold esR
    rw [List.getElem?_map, List.getElem?_map]
    by_cases hjn : j < n
    · rw [List.getElem?_range hjn]
      show some (shC _) = some (shC _)
      rw [if_neg (c := j = k) (fun q => hj q.symm), if_neg (c := j = k) (fun q => hj q.symm)]
    · rw [List.getElem?_eq_none (by rw [List.length_range]; omega)]; rfl
theorem esR_next {l : List (List (Nat × Nat))} {n k : Nat} : esR l n k l.length = esR l n (k + 1) 0 := by
  unfold esR
  refine List.map_congr_left fun j _ => ?_
  congr 1
  by_cases h1 : j < k
  · rw [if_pos h1, if_pos (by omega)]
  · rw [if_neg h1]
    by_cases h2 : j = k
    · subst h2
      rw [if_pos rfl, if_pos (by omega), List.take_of_length_le (by rw [colZ_len]; exact Nat.le_refl _)]
    · rw [if_neg h2, if_neg (by omega)]
      split <;> rfl
theorem esR_zero (l : List (List (Nat × Nat))) (n : Nat) : esR l n 0 0 = List.replicate n (shC (0, 0)) := by
  rw [List.eq_replicate_iff]
  refine ⟨esR_len _ _ _ _, fun b hb => ?_⟩
  unfold esR at hb
  obtain ⟨j, _, rfl⟩ := List.mem_map.1 hb
  rw [if_neg (by omega)]
  split <;> rfl
theorem esR_all (l : List (List (Nat × Nat))) (n : Nat) : esR l n n 0 = (smL l n).map shC := by
  unfold esR smL
  rw [List.map_map]
  refine List.map_congr_left fun j hj => ?_
  have := List.mem_range.1 hj
  rw [if_pos this]; rfl
set_option maxRecDepth 100000 in
theorem merged1_p (l : List (List (Nat × Nat))) (x : List (Nat × Nat)) (hl : 0 < l.length) : PC Tryz.prog 131 [.sl 1 (x.map cvC), .pt [.sl 1 (l.map imC)] 0] (.v (.bool (neqB l x))) := by
 have hx0 := hd_at hl
 refine pc_of_awpN Tryz.func131 rfl Tryz.ntmps131 (rs := [.tmp 3]) Tryz.results131 (by simp) fun w0 hmine hrnd hpn => ?_
 refine awp_seq ?_
 refine awp_region 1 mixed (by kernel_rfl) ?_
 refine rg_q (q_a rfl) ?_
 refine rs (awp_region 8 mixed (by kernel_rfl) ?_)
 refine rg_q (q_move (x := .d (.sl _ _)) rfl) ?_
 refine rg_q (q_len isl72 rfl (by exact len_map _ _)) ?_
 refine rg_q (q_load sz105 rfl rfl) ?_
 refine rg_q (q_indexAddr sl105 rfl rfl (by omega) (map_at (k := 0) (by omega) hx0)) ?_
 refine rg_q (q_load sz72 rfl rfl) ?_
 refine rg_q (q_len isl72 rfl (by exact len_map _ _)) ?_
 refine rg_q (q_neq rfl rfl) (rg_q (q_a rfl) ?_)
 refine rn ?_
 change Awp _ _ _ _ _
 refine awp_len (t := 4) rfl (fun hl4 => ?_)
 (try simp only [List.length_map] at hl4)
 refine awp_len (t := 8) rfl (fun hl8 => ?_)
 (try simp only [List.length_map] at hl8)
 refine awp_ret ?_
 refine ⟨_, (.cons (.tmp (by exact .d _)) .nil), ?_⟩
 show D.v (.bool (neqB l x)) = _
 unfold neqB hdN
 congr 2
 exact decide_eq_decide.2 (by omega)
set_option maxRecDepth 100000 in
theorem indexIm_p (f : List (Nat × Nat) → Bool) (g : FuncId) (cap : List D) (hen : enB Tryz.prog g = true) (l : List (List (Nat × Nat))) (hf : ∀ a ∈ l, PC Tryz.prog g (.sl 1 (a.map cvC) :: cap) (.v (.bool (f a)))) : PC Tryz.prog 195 [.sl 1 (l.map imC), .fn (.func g) cap] (.v (.int .i64 (idxOf f 0 l))) := by
 refine pc_of_awp Tryz.func195 rfl Tryz.ntmps195 (rs := [.tmp 4]) Tryz.results195 (by simp) fun w0 => ?_
 refine awp_seq ?_
 refine awp_region 1 mixed (by kernel_rfl) ?_
 refine rg_q (q_a rfl) ?_
 refine rn ?_
 change Awp _ _ _ _ _
 refine awp_seq ?_
 refine awp_seq ?_
 refine awp_region 3 mixed (by kernel_rfl) ?_
 refine rg_q (q_move (x := .d (.sl _ _)) rfl) ?_
 refine rg_q (q_len isl105 rfl (by exact len_map _ _)) ?_
 refine rg_q (q_m rfl) ?_
 refine rn ?_
 change Awp _ _ _ _ _
 refine awp_len (t := 6) rfl (fun hl6 => ?_)
 (try simp only [List.length_map] at hl6)
 refine awp_block ?_
 refine awp_loopH [4, 5, 8, 9, 10, 11, 12, 13, 14, 15, 16, 17, 18] [] (α := Nat) (fun k => [(8, T.i (k : Int))]) (fun k => []) (fun k => k ≤ l.length ∧ idxOf f 0 l = idxOf f k (l.drop k)) (fun k => l.length - k) 0 ⟨Nat.zero_le _, rfl⟩ ?_ ?_
 · exact le_head (ms := []) (by repeat (exact Out.refl _)) ⟨(by rfl), trivial⟩ trivial rfl rfl rfl rfl
 ·
  intro k ⟨hk, hh⟩
  refine awp_seq ?_
  refine awp_region 1 mixed (by kernel_rfl) ?_
  refine rg_q (q_lss rfl rfl) ?_
  refine rn ?_
  change Awp _ _ _ _ _
  refine awp_seq ?_
  refine awp_cond rfl (fun hc2 => ?_) (fun hc2 => ?_)
  ·
   (try simp only [nb, ne_eq] at hc2)
   have hlt : k < l.length := by omega
   have hx := List.getElem?_eq_getElem hlt
   have hd : idxOf f k (l.drop k) = if f l[k] = true then (k : Int) else idxOf f (k + 1) (l.drop (k + 1)) := by rw [List.drop_eq_getElem_cons hlt]; rfl
   have hfx := hf l[k] (List.getElem_mem hlt)
   generalize l[k] = x at *
   refine awp_skip ?_
   change Awp _ _ _ _ _
   refine awp_seq ?_
   refine awp_block ?_
   refine awp_seq ?_
   refine awp_region 2 mixed (by kernel_rfl) ?_
   refine rg_q (q_m rfl) (rg_q (q_a rfl) ?_)
   refine rs (awp_region 6 mixed (by kernel_rfl) ?_)
   refine rg_q (q_move (x := .d (.fn _ _)) rfl) (rg_q (q_move (x := .d (.sl _ _)) rfl) (rg_q (q_m rfl) ?_))
   refine rg_q (q_indexAddr sl105 rfl rfl (by omega) (map_at (by omega) hx)) ?_
   refine rg_q (q_load sz72 rfl rfl) ?_
   refine rg_q (q_callC hen rfl (.cons rfl .nil) (hfx)) ?_
   refine rn ?_
   change Awp _ _ _ _ _
   refine awp_cond rfl (fun hc4 => ?_) (fun hc4 => ?_)
   ·
    (try simp only [nb, ne_eq] at hc4)
    refine awp_seq ?_
    refine awp_region 2 mixed (by kernel_rfl) ?_
    refine rg_q (q_m rfl) (rg_q (q_a rfl) ?_)
    refine rn ?_
    change Awp _ _ _ _ _
    refine awp_ret ?_
    refine ⟨_, (.cons (.tmp (by exact .d _)) .nil), ?_⟩
    rw [hh, hd, if_pos (by simpa using hc4)]; rfl
   ·
    (try simp only [nb, ne_eq] at hc4)
    refine awp_skip ?_
    change Awp _ _ _ _ _
    refine awp_region 2 mixed (by kernel_rfl) ?_
    refine rg_q (q_add rfl rfl (In64.mk (by omega) (by omega))) ?_
    refine rg_q (q_m rfl) ?_
    refine rn ?_
    refine ⟨k + 1, ⟨by omega, by rw [hh, hd, if_neg (by simpa using hc4)]⟩, by omega, ?_⟩
    exact le_head (ms := []) (by repeat (first | exact Out.head rfl rfl | (refine Out.put ?_ rfl))) ⟨(by rfl), trivial⟩ trivial rfl rfl rfl rfl
  ·
   (try simp only [nb, ne_eq] at hc2)
   refine awp_exit ?_
   change Awp _ _ _ _ _
   refine awp_seq ?_
   refine awp_region 1 mixed (by kernel_rfl) ?_
   refine rg_q (q_a rfl) ?_
   refine rn ?_
   change Awp _ _ _ _ _
   refine awp_ret ?_
   refine ⟨_, (.cons (.tmp (by exact .d _)) .nil), ?_⟩
   rw [hh, List.drop_of_length_le (by omega)]; rfl
set_option maxRecDepth 100000 in
theorem containsIm_p (f : List (Nat × Nat) → Bool) (g : FuncId) (cap : List D) (hen : enB Tryz.prog g = true) (l : List (List (Nat × Nat))) (hf : ∀ a ∈ l, PC Tryz.prog g (.sl 1 (a.map cvC) :: cap) (.v (.bool (f a)))) : PC Tryz.prog 130 [.sl 1 (l.map imC), .fn (.func g) cap] (.v (.bool (l.any f))) := by
 have hm := idxOf_mem f l
 refine pc_of_awp Tryz.func130 rfl Tryz.ntmps130 (rs := [.tmp 4]) Tryz.results130 (by simp) fun w0 => ?_
 refine awp_seq ?_
 refine awp_region 1 mixed (by kernel_rfl) ?_
 refine rg_q (q_a rfl) ?_
 refine rs (awp_region 5 mixed (by kernel_rfl) ?_)
 refine rg_q (q_move (x := .d (.sl _ _)) rfl) (rg_q (q_move (x := .d (.fn _ _)) rfl) ?_)
 refine rg_q (q_call en195 (.cons rfl (.cons rfl .nil)) rfl (indexIm_p f g cap hen l hf)) ?_
 refine rg_q (q_geq rfl rfl) (rg_q (q_a rfl) ?_)
 refine rn ?_
 change Awp _ _ _ _ _
 refine awp_ret ?_
 refine ⟨_, (.cons (.tmp (by exact .d _)) .nil), ?_⟩
 rw [← hm]; rfl
set_option maxHeartbeats 4000000 in
set_option maxRecDepth 100000 in
theorem mergedI_p (l : List (List (Nat × Nat))) : PC Tryz.prog 60 [.sl 1 (l.map imC)] (.tup [.sl 1 ((mgR l).1.map cvC), .v (.int .i64 ((mgR l).2))]) := by
 have hu : mgR l = if (decide (l.length = 0) || l.any (neqB l)) = true then ([], 10)
  else if 16 < l.length ∨ 1600 < hdN l then ([], 8)
  else if mgS l 0 (hdN l) ≠ 0 then ([], mgS l 0 (hdN l))
  else ((smL l (hdN l)).map czP, 0) := rfl
 refine pc_of_awpN Tryz.func60 rfl Tryz.ntmps60 (rs := [.tmp 2, .tmp 3]) Tryz.results60 (by simp) fun w0 hmine hrnd hpn => ?_
 refine awp_seq ?_
 refine awp_region 3 mixed (by kernel_rfl) ?_
 refine rg_q (q_box rfl (by exact .inl rfl)) ?_
 refine rg_q (q_assign (x := .d (.sl _ _)) rfl) (rg_q (q_a rfl) ?_)
 refine rn ?_
 change Awp _ _ _ _ _
 refine awp_seq ?_
 refine awp_seq ?_
 refine awp_region 8 mixed (by kernel_rfl) ?_
 refine rg_q (q_load sz105 rfl rfl) ?_
 refine rg_q (q_len isl105 rfl (by exact len_map _ _)) ?_
 refine rg_q (q_eql rfl rfl) (rg_q (q_m rfl) ?_)
 refine rg_g rfl rfl (fun hG => (q_load sz105 rfl rfl)) ?_
 refine rg_g rfl rfl (fun hG => (q_makeFunc (.cons rfl .nil))) ?_
 refine rg_g rfl rfl (fun hG => (q_call en130 (.cons rfl (.cons rfl .nil)) rfl (containsIm_p (neqB l) 131 [.pt [.sl 1 (l.map imC)] 0] en131 l (fun x _ => merged1_p l x (by have q := of_decide_eq_false (T.bool_inj (a := _) hG.1); omega))))) ?_
 refine rg_pick rfl rfl rfl rfl rfl rfl ?_
 refine rn ?_
 change Awp _ _ _ _ _
 refine awp_len (t := 9) rfl (fun hl9 => ?_)
 (try simp only [List.length_map] at hl9)
 refine awp_cond rfl (fun hc1 => ?_) (fun hc1 => ?_)
 ·
  (try simp only [nb, ne_eq] at hc1)
  have hq : (decide (l.length = 0) || l.any (neqB l)) = true := by
   rcases hc1 with q | q
   · rw [decide_eq_true (show l.length = 0 by omega)]; rfl
   · rw [q, Bool.or_true]
  rw [if_pos hq] at hu
  refine awp_seq ?_
  refine awp_region 2 mixed (by kernel_rfl) ?_
  refine rg_q (q_assign (x := .d (.sl _ _)) rfl) (rg_q (q_a rfl) ?_)
  refine rn ?_
  change Awp _ _ _ _ _
  refine awp_ret ?_
  refine ⟨_, (.cons (.tmp (by exact .d _)) (.cons (.tmp (by exact .d _)) .nil)), ?_⟩
  rw [hu]; rfl
 ·
  (try simp only [nb, ne_eq] at hc1)
  obtain ⟨hln, hany⟩ := hc1
  have hl0 : 0 < l.length := by omega
  have hx0 := hd_at hl0
  have hx0l : (l.getD 0 []).length = hdN l := rfl
  have hqn : ¬ (decide (l.length = 0) || l.any (neqB l)) = true := by rw [hany, decide_eq_false (show ¬ l.length = 0 by omega)]; decide
  rw [if_neg hqn] at hu
  have hlen : ∀ x ∈ l, x.length = hdN l := fun x hx => by
   have := List.any_eq_false.1 hany x hx
   unfold neqB at this
   simpa using this
  refine awp_skip ?_
  change Awp _ _ _ _ _
  refine awp_seq ?_
  refine awp_seq ?_
  refine awp_region 10 mixed (by kernel_rfl) ?_
  refine rg_q (q_load sz105 rfl rfl) ?_
  refine rg_q (q_len isl105 rfl (by exact len_map _ _)) ?_
  refine rg_q (q_gtr rfl rfl) (rg_q (q_m rfl) ?_)
  refine rg_g rfl rfl (fun hG => (q_load sz105 rfl rfl)) ?_
  refine rg_g rfl rfl (fun hG => (q_indexAddr sl105 rfl rfl (by (have hg0 := T.bool_inj (a := _) hG.1; (try simp only [nb, ne_eq] at hg0); omega)) (map_at (k := 0) (by omega) hx0))) ?_
  refine rg_g rfl rfl (fun hG => (q_load sz72 rfl rfl)) ?_
  refine rg_g rfl rfl (fun hG => (q_len isl72 rfl (by exact len_map _ _))) ?_
  refine rg_g rfl rfl (fun hG => (q_gtr rfl rfl)) ?_
  refine rg_pick rfl rfl rfl rfl rfl rfl ?_
  refine rn ?_
  change Awp _ _ _ _ _
  refine awp_len (t := 17) rfl (fun hl17 => ?_)
  (try simp only [List.length_map] at hl17)
  refine awp_cond rfl (fun hc3 => ?_) (fun hc3 => ?_)
  ·
   (try simp only [nb, ne_eq] at hc3)
   rw [if_pos (show 16 < l.length ∨ 1600 < hdN l by omega)] at hu
   refine awp_seq ?_
   refine awp_region 2 mixed (by kernel_rfl) ?_
   refine rg_q (q_assign (x := .d (.sl _ _)) rfl) (rg_q (q_a rfl) ?_)
   refine rn ?_
   change Awp _ _ _ _ _
   refine awp_ret ?_
   refine ⟨_, (.cons (.tmp (by exact .d _)) (.cons (.tmp (by exact .d _)) .nil)), ?_⟩
   rw [hu]; rfl
  ·
   (try simp only [nb, ne_eq] at hc3)
   have hl16 : l.length ≤ 16 := by omega
   have hn16 : hdN l ≤ 1600 := by omega
   rw [if_neg (by omega)] at hu
   refine awp_skip ?_
   change Awp _ _ _ _ _
   refine awp_seq ?_
   refine awp_region 4 mixed (by kernel_rfl) ?_
   refine rg_q (q_load sz105 rfl rfl) ?_
   refine rg_q (q_indexAddr sl105 rfl rfl (by omega) (map_at (k := 0) (by omega) hx0)) ?_
   refine rg_q (q_load sz72 rfl rfl) ?_
   refine rg_q (q_len isl72 rfl (by exact len_map _ _)) ?_
   refine rg_nil ?_
   refine aops_make (m := hdN l) sl189 zr160 by160 rfl rfl rfl rfl (by (try simp only [List.length_map]); omega) (by (try simp only [List.length_map]); omega) rfl rfl ?_
   refine aops_q rfl (q_assign (x := .rs _) rfl) ?_
   refine aops_nil ?_
   change Awp _ _ _ _ _
   refine awp_len (t := 29) rfl (fun hl29 => ?_)
   (try simp only [List.length_map] at hl29)
   refine awp_seq ?_
   refine awp_seq ?_
   refine awp_region 3 mixed (by kernel_rfl) ?_
   refine rg_q (q_move (x := .rs _) rfl) ?_
   refine rg_q (q_len_rs isl189 rfl rfl) ?_
   refine rg_q (q_m rfl) ?_
   refine rn ?_
   change Awp _ _ _ _ _
   skip
   (try simp only [List.length_map] at hl32)
   refine awp_block ?_
   refine awp_loopH [2, 3, 5, 7, 8, 34, 35, 36, 37, 38, 39, 40, 41, 42, 43, 44, 45, 46, 47, 48, 49, 50, 51, 52, 53, 54, 55, 56, 57, 58, 59, 60, 61, 62, 63, 64, 65] [31] (α := Nat) (fun k => [(34, T.i (k : Int))]) (fun k => [(31, .row 160 2 (esR l (hdN l) k 0))]) (fun k => k ≤ hdN l ∧ mgS l 0 (hdN l) = mgS l k (hdN l - k)) (fun k => hdN l - k) 0 ⟨Nat.zero_le _, rfl⟩ ?_ ?_
   · exact le_head (ms := [31]) (by repeat (exact Out.refl _)) ⟨(by rfl), trivial⟩ ⟨(by (show Site.row _ _ _ = Site.row _ _ _; (rw [esR_zero]; rfl))), trivial⟩ rfl rfl rfl rfl
   ·
    intro k ⟨hk, hf⟩
    refine awp_seq ?_
    refine awp_region 1 mixed (by kernel_rfl) ?_
    refine rg_q (q_lss rfl rfl) ?_
    refine rn ?_
    change Awp _ _ _ _ _
    refine awp_seq ?_
    refine awp_cond rfl (fun hc7 => ?_) (fun hc7 => ?_)
    ·
     (try simp only [nb, ne_eq] at hc7)
     (try simp only [List.length_replicate] at hc7)
     have hlt : k < hdN l := by omega
     have hms := mgS_at (l := l) hlt
     rw [hms] at hf
     have hcl := colZ_len l k
     refine awp_skip ?_
     change Awp _ _ _ _ _
     refine awp_seq ?_
     refine awp_block ?_
     refine awp_seq ?_
     refine awp_region 2 mixed (by kernel_rfl) ?_
     refine rg_q (q_m rfl) (rg_q (q_a rfl) ?_)
     refine rs (awp_region 3 mixed (by kernel_rfl) ?_)
     refine rg_q (q_load sz105 rfl rfl) ?_
     refine rg_q (q_len isl105 rfl (by exact len_map _ _)) ?_
     refine rg_q (q_m rfl) ?_
     refine rn ?_
     change Awp _ _ _ _ _
     refine awp_len (t := 37) rfl (fun hl37 => ?_)
     (try simp only [List.length_map] at hl37)
     refine awp_block ?_
     refine awp_loopH [2, 3, 7, 8, 39, 40, 41, 42, 43, 44, 45, 46, 47, 48, 49, 50, 51, 52, 53, 54, 55, 56, 57, 58, 59, 60, 61, 62, 63, 64] [31] (α := Nat) (fun i => [(39, T.i (i : Int))]) (fun i => [(31, .row 160 2 (esR l (hdN l) k i))]) (fun i => i ≤ l.length ∧ peS (colZ l k) = peS ((colZ l k).drop i) ∧ ∀ z ∈ (colZ l k).take i, peI z = 0) (fun i => l.length - i) 0 ⟨Nat.zero_le _, rfl, fun z q => by simp at q⟩ ?_ ?_
     · exact le_head (ms := [31]) (by repeat (exact Out.refl _)) ⟨(by rfl), trivial⟩ ⟨(by rfl), trivial⟩ rfl rfl rfl rfl
     ·
      intro i ⟨hi, hg, hok⟩
      refine awp_seq ?_
      refine awp_region 1 mixed (by kernel_rfl) ?_
      refine rg_q (q_lss rfl rfl) ?_
      refine rn ?_
      change Awp _ _ _ _ _
      refine awp_seq ?_
      refine awp_cond rfl (fun hc10 => ?_) (fun hc10 => ?_)
      ·
       (try simp only [nb, ne_eq] at hc10)
       have hil : i < l.length := by omega
       obtain ⟨x, hx⟩ : ∃ x, l[i]? = some x := ⟨_, List.getElem?_eq_getElem hil⟩
       have hxl := hlen x (List.mem_of_getElem? hx)
       have hzk := atZ_at (x := x) (k := k) (by omega)
       have hcz := colZ_at k hx
       have hps := peS_at hcz
       rw [hps] at hg
       have hsi := smS_in (c := colZ l k) i (by omega) hok
       have hsn := smS_snoc hcz
       refine awp_skip ?_
       change Awp _ _ _ _ _
       refine awp_seq ?_
       refine awp_block ?_
       refine awp_seq ?_
       refine awp_region 3 mixed (by kernel_rfl) ?_
       refine rg_q (q_indexAddr sl105 rfl rfl (by omega) (map_at (by omega) hx)) ?_
       refine rg_q (q_load sz72 rfl rfl) (rg_q (q_assign (x := .d (.sl _ _)) rfl) ?_)
       refine rn ?_
       change Awp _ _ _ _ _
       refine awp_seq ?_
       refine awp_seq ?_
       refine awp_region 6 mixed (by kernel_rfl) ?_
       refine rg_q (q_move (x := .d (.sl _ _)) rfl) (rg_q (q_m rfl) ?_)
       refine rg_q (q_indexAddr sl72 rfl rfl (by omega) (map_at (k := k) (by omega) hzk)) ?_
       refine rg_q (q_load sz46 rfl rfl) ?_
       refine rg_q (q_call en127 (.cons rfl .nil) rfl (partErr_p (atZ x k))) ?_
       refine rg_q (q_a rfl) ?_
       refine rs (awp_region 2 mixed (by kernel_rfl) ?_)
       refine rg_q (q_m rfl) (rg_q (q_neq rfl rfl) ?_)
       refine rn ?_
       change Awp _ _ _ _ _
       refine awp_cond rfl (fun hc13 => ?_) (fun hc13 => ?_)
       ·
        (try simp only [nb, ne_eq] at hc13)
        have he : peS (colZ l k) = peI (atZ x k) := by rw [hg, if_pos hc13]
        have hz : mgR l = ([], peI (atZ x k)) := by rw [hu, hf, he, if_pos hc13, if_pos hc13]
        refine awp_seq ?_
        refine awp_region 3 mixed (by kernel_rfl) ?_
        refine rg_q (q_m rfl) (rg_q (q_assign (x := .d (.sl _ _)) rfl) (rg_q (q_a rfl) ?_))
        refine rn ?_
        change Awp _ _ _ _ _
        refine awp_ret ?_
        refine ⟨_, (.cons (.tmp (by exact .d _)) (.cons (.tmp (by exact .d _)) .nil)), ?_⟩
        rw [hz]; rfl
       ·
        (try simp only [nb, ne_eq] at hc13)
        have hz0 : peI (atZ x k) = 0 := hc13
        rw [if_neg (fun q => q hz0)] at hg
        have hvz := vZ_in hz0
        have hok2 : ∀ z ∈ (colZ l k).take (i + 1), peI z = 0 := fun z q => by
         rw [takeSnoc hcz] at q
         rcases List.mem_append.1 q with q | q
         · exact hok z q
         · rw [List.mem_singleton.1 q]; exact hz0
        have hsn2 : smS ((colZ l k).take (i + 1)) = ((smS ((colZ l k).take i)).1 + (vZ (atZ x k)).1, (smS ((colZ l k).take i)).2 + (vZ (atZ x k)).2) := hsn
        have hset := esR_set hlt hsn2
        have hea := esR_at (l := l) (n := hdN l) (i := i) hlt
        have hel := esR_len l (hdN l) k i
        refine awp_skip ?_
        change Awp _ _ _ _ _
        refine awp_region 13 mixed (by kernel_rfl) ?_
        refine rg_q (q_move (x := .rs _) rfl) (rg_q (q_m rfl) (rg_q (q_move (x := .rs _) rfl) (rg_q (q_m rfl) ?_)))
        refine rg_q (q_indexAddr_rs sl189 rfl rfl rfl (by omega) (by omega)) ?_
        refine rg_q (q_load_rowA sz160 rfl rfl rfl hea) ?_
        refine rg_q (q_move (x := .d (.sl _ _)) rfl) (rg_q (q_m rfl) ?_)
        refine rg_q (q_indexAddr sl72 rfl rfl (by omega) (map_at (k := k) (by omega) hzk)) ?_
        refine rg_q (q_load sz46 rfl rfl) ?_
        refine rg_q (q_call en128 (.cons rfl .nil) rfl (sumOf_p (atZ x k) hz0)) ?_
        refine rg_q (q_call en132 (.cons rfl (.cons rfl .nil)) rfl (fplus_p _ _ _ _ (by omega) (by omega) (by omega) (by omega))) ?_
        refine rg_q (q_indexAddr_rs sl189 rfl rfl rfl (by omega) (by omega)) ?_
        refine rg_nil ?_
        refine aops_store_row sz160 rfl rfl (by exact .inr ⟨_, rfl⟩) rfl rfl (i := k) (j := 0) rfl hea (by decide) hset ?_
        refine aops_nil ?_
        change Awp _ _ _ _ _
        refine awp_region 2 mixed (by kernel_rfl) ?_
        refine rg_q (q_add rfl rfl (In64.mk (by omega) (by omega))) ?_
        refine rg_q (q_m rfl) ?_
        refine rn ?_
        refine ⟨i + 1, ⟨by omega, hg, hok2⟩, by omega, ?_⟩
        exact le_head (ms := [31]) (by repeat (first | exact Out.head rfl rfl | (refine Out.put ?_ rfl) | (refine Out.site ?_ rfl))) ⟨(by rfl), trivial⟩ ⟨(by rfl), trivial⟩ rfl rfl rfl rfl
      ·
       (try simp only [nb, ne_eq] at hc10)
       have hiL : i = l.length := by omega
       have hcz0 : peS (colZ l k) = 0 := by rw [hg, List.drop_of_length_le (by omega)]; rfl
       have hf2 : mgS l 0 (hdN l) = mgS l (k + 1) (hdN l - (k + 1)) := by rw [hf, if_neg (c := peS (colZ l k) ≠ 0) (fun q => q hcz0)]
       subst hiL
       have hnx := esR_next (l := l) (n := hdN l) (k := k)
       refine awp_exit ?_
       change Awp _ _ _ _ _
       refine awp_region 2 mixed (by kernel_rfl) ?_
       refine rg_q (q_add rfl rfl (In64.mk (by omega) (by omega))) ?_
       refine rg_q (q_m rfl) ?_
       refine rn ?_
       refine ⟨k + 1, ⟨by omega, hf2⟩, by omega, ?_⟩
       exact le_head (ms := [31]) (by repeat (first | exact Out.head rfl rfl | (refine Out.put ?_ rfl) | (refine Out.headIn ?_ rfl rfl rfl))) ⟨(by rfl), trivial⟩ ⟨(by (show Site.row _ _ _ = Site.row _ _ _; (rw [hnx]; done))), trivial⟩ rfl rfl rfl rfl
    ·
     (try simp only [nb, ne_eq] at hc7)
     (try simp only [List.length_replicate] at hc7)
     have hkn : k = hdN l := by omega
     have hm0 : mgS l 0 (hdN l) = 0 := by rw [hf, hkn, Nat.sub_self]; rfl
     rw [if_neg (c := mgS l 0 (hdN l) ≠ 0) (fun q => q hm0)] at hu
     subst hkn
     rw [esR_all]
     refine awp_exit ?_
     change Awp _ _ _ _ _
     refine awp_seq ?_
     refine Awp.le (le_freezeR (es := (smL l (hdN l)).map shC) 31 4 (by show Site.row _ _ _ = _; rfl) rfl rfl rfl hmine) ?_
     refine awp_region 4 mixed (by kernel_rfl) ?_
     refine rg_q (q_move (x := .d (.sl _ _)) rfl) ?_
     refine rg_q (q_call en113 (.cons rfl .nil) rfl (numbersOf5_p (smL l (hdN l)) (by rw [smL_len]; omega))) ?_
     refine rg_q (q_assign (x := .d (.sl _ _)) rfl) (rg_q (q_a rfl) ?_)
     refine rn ?_
     change Awp _ _ _ _ _
     refine awp_ret ?_
     refine ⟨_, (.cons (.tmp (by exact .d _)) (.cons (.tmp (by exact .d _)) .nil)), ?_⟩
     rw [hu]; rfl
end Go.Proofs.YtphlaicnmmglhaaGreat.Am.M
-- mini
namespace Go.Proofs.YtphlaicnmmglhaaGreat.Am.M
open Go
set_option maxHeartbeats 4000000 in
set_option maxRecDepth 100000 in
theorem rmerged_p (l : List (List (Nat × Nat))) : PC Tryz.prog 61 [.sl 1 (l.map imC)] (.tup [.sl 1 ((mgR l).1.map cvC), .v (.int .i64 ((mgR l).2))]) := by
 have hu : mgR l = if (decide (l.length = 0) || l.any (neqB l)) = true then ([], 10)
  else if 16 < l.length ∨ 1600 < hdN l then ([], 8)
  else if mgS l 0 (hdN l) ≠ 0 then ([], mgS l 0 (hdN l))
  else ((smL l (hdN l)).map czP, 0) := rfl
 refine pc_of_awpN Tryz.func61 rfl Tryz.ntmps61 (rs := [.tmp 2, .tmp 3]) Tryz.results61 (by simp) fun w0 hmine hrnd hpn => ?_
 refine awp_seq ?_
 refine awp_region 2 mixed (by kernel_rfl) ?_
 refine rg_q (q_assign (x := .d (.sl _ _)) rfl) (rg_q (q_a rfl) ?_)
 refine rn ?_
 change Awp _ _ _ _ _
 refine awp_seq ?_
 refine awp_seq ?_
 refine awp_region 3 mixed (by kernel_rfl) ?_
 refine rg_q (q_move (x := .d (.sl _ _)) rfl) ?_
 refine rg_q (q_len isl105 rfl (by exact len_map _ _)) ?_
 refine rg_q (q_eql rfl rfl) ?_
 refine rn ?_
 change Awp _ _ _ _ _
 refine awp_len (t := 13) rfl (fun hl13 => ?_)
 (try simp only [List.length_map] at hl13)
 refine awp_cond rfl (fun hc1 => ?_) (fun hc1 => ?_)
 ·
  (try simp only [nb, ne_eq] at hc1)
  have hq : (decide (l.length = 0) || l.any (neqB l)) = true := by rw [decide_eq_true (show l.length = 0 by omega)]; rfl
  rw [if_pos hq] at hu
  refine awp_seq ?_
  refine awp_region 2 mixed (by kernel_rfl) ?_
  refine rg_q (q_assign (x := .d (.sl _ _)) rfl) (rg_q (q_a rfl) ?_)
  refine rn ?_
  change Awp _ _ _ _ _
  refine awp_ret ?_
  refine ⟨_, (.cons (.tmp (by exact .d _)) (.cons (.tmp (by exact .d _)) .nil)), ?_⟩
  rw [hu]; rfl
 ·
  (try simp only [nb, ne_eq] at hc1)
  have hl0 : 0 < l.length := by omega
  have hx0 := hd_at hl0
  refine awp_skip ?_
  change Awp _ _ _ _ _
  refine awp_seq ?_
  refine awp_seq ?_
  refine awp_region 1 mixed (by kernel_rfl) ?_
  refine rg_q (q_a rfl) ?_
  refine rn ?_
  change Awp _ _ _ _ _
  refine awp_block ?_
  refine awp_loopH [2, 3, 4, 16, 17, 18, 19, 20, 21, 22, 23, 24, 25, 26, 27, 28, 29, 30, 31] [] (α := Nat) (fun i => [(4, T.i (i : Int))]) (fun i => []) (fun i => i ≤ l.length ∧ (l.take i).any (neqB l) = false) (fun i => l.length - i) 0 ⟨Nat.zero_le _, by simp⟩ ?_ ?_
  · exact le_head (ms := []) (by repeat (exact Out.refl _)) ⟨(by rfl), trivial⟩ trivial rfl rfl rfl rfl
  ·
   intro i ⟨hi, ha⟩
   refine awp_seq ?_
   refine awp_seq ?_
   refine awp_region 4 mixed (by kernel_rfl) ?_
   refine rg_q (q_m rfl) (rg_q (q_move (x := .d (.sl _ _)) rfl) ?_)
   refine rg_q (q_len isl105 rfl (by exact len_map _ _)) ?_
   refine rg_q (q_lss rfl rfl) ?_
   refine rn ?_
   change Awp _ _ _ _ _
   refine awp_len (t := 17) rfl (fun hl17 => ?_)
   (try simp only [List.length_map] at hl17)
   refine awp_cond rfl (fun hc4 => ?_) (fun hc4 => ?_)
   ·
    (try simp only [nb, ne_eq] at hc4)
    have hlt : i < l.length := by omega
    obtain ⟨x, hx⟩ : ∃ x, l[i]? = some x := ⟨_, List.getElem?_eq_getElem hlt⟩
    refine awp_skip ?_
    change Awp _ _ _ _ _
    refine awp_seq ?_
    refine awp_block ?_
    refine awp_seq ?_
    refine awp_region 10 mixed (by kernel_rfl) ?_
    refine rg_q (q_move (x := .d (.sl _ _)) rfl) (rg_q (q_m rfl) ?_)
    refine rg_q (q_indexAddr sl105 rfl rfl (by omega) (map_at (by omega) hx)) ?_
    refine rg_q (q_load sz72 rfl rfl) ?_
    refine rg_q (q_len isl72 rfl (by exact len_map _ _)) ?_
    refine rg_q (q_move (x := .d (.sl _ _)) rfl) ?_
    refine rg_q (q_indexAddr sl105 rfl rfl (by omega) (map_at (k := 0) (by omega) hx0)) ?_
    refine rg_q (q_load sz72 rfl rfl) ?_
    refine rg_q (q_len isl72 rfl (by exact len_map _ _)) ?_
    refine rg_q (q_neq rfl rfl) ?_
    refine rn ?_
    change Awp _ _ _ _ _
    refine awp_len (t := 25) rfl (fun hl25 => ?_)
    (try simp only [List.length_map] at hl25)
    refine awp_len (t := 29) rfl (fun hl29 => ?_)
    (try simp only [List.length_map] at hl29)
    refine awp_cond rfl (fun hc6 => ?_) (fun hc6 => ?_)
    ·
     (try simp only [nb, ne_eq] at hc6)
     have hnb : neqB l x = true := by unfold neqB hdN; exact decide_eq_true (by omega)
     have hq : (decide (l.length = 0) || l.any (neqB l)) = true := by rw [List.any_eq_true.2 ⟨x, List.mem_of_getElem? hx, hnb⟩, Bool.or_true]
     rw [if_pos hq] at hu
     refine awp_seq ?_
     refine awp_region 2 mixed (by kernel_rfl) ?_
     refine rg_q (q_assign (x := .d (.sl _ _)) rfl) (rg_q (q_a rfl) ?_)
     refine rn ?_
     change Awp _ _ _ _ _
     refine awp_ret ?_
     refine ⟨_, (.cons (.tmp (by exact .d _)) (.cons (.tmp (by exact .d _)) .nil)), ?_⟩
     rw [hu]; rfl
    ·
     (try simp only [nb, ne_eq] at hc6)
     have hnb : neqB l x = false := by unfold neqB hdN; exact decide_eq_false (by omega)
     have ha2 : (l.take (i + 1)).any (neqB l) = false := by rw [takeSnoc hx]; exact anySnoc ha hnb
     refine awp_skip ?_
     change Awp _ _ _ _ _
     refine awp_region 3 mixed (by kernel_rfl) ?_
     refine rg_q (q_m rfl) ?_
     refine rg_q (q_add rfl rfl (In64.mk (by omega) (by omega))) ?_
     refine rg_q (q_a rfl) ?_
     refine rn ?_
     refine ⟨i + 1, ⟨by omega, ha2⟩, by omega, ?_⟩
     exact le_head (ms := []) (by repeat (first | exact Out.head rfl rfl | (refine Out.put ?_ rfl))) ⟨(by rfl), trivial⟩ trivial rfl rfl rfl rfl
   ·
    (try simp only [nb, ne_eq] at hc4)
    have hiL : i = l.length := by omega
    have hany : l.any (neqB l) = false := by
     have q := ha
     rw [hiL, List.take_length] at q
     exact q
    have hx0l : (l.getD 0 []).length = hdN l := rfl
    have hqn : ¬ (decide (l.length = 0) || l.any (neqB l)) = true := by rw [hany, decide_eq_false (show ¬ l.length = 0 by omega)]; decide
    rw [if_neg hqn] at hu
    have hlen : ∀ x ∈ l, x.length = hdN l := fun x hx => by
     have := List.any_eq_false.1 hany x hx
     unfold neqB at this
     simpa using this
    refine awp_exit ?_
    change Awp _ _ _ _ _
    refine awp_seq ?_
    refine awp_seq ?_
    refine awp_region 10 mixed (by kernel_rfl) ?_
    refine rg_q (q_move (x := .d (.sl _ _)) rfl) ?_
    refine rg_q (q_len isl105 rfl (by exact len_map _ _)) ?_
    refine rg_q (q_gtr rfl rfl) (rg_q (q_m rfl) ?_)
    refine rg_g rfl rfl (fun hG => (q_move (x := .d (.sl _ _)) rfl)) ?_
    refine rg_g rfl rfl (fun hG => (q_indexAddr sl105 rfl rfl (by (have hg0 := T.bool_inj (a := _) hG.1; (try simp only [nb, ne_eq] at hg0); omega)) (map_at (k := 0) (by omega) hx0))) ?_
    refine rg_g rfl rfl (fun hG => (q_load sz72 rfl rfl)) ?_
    refine rg_g rfl rfl (fun hG => (q_len isl72 rfl (by exact len_map _ _))) ?_
    refine rg_g rfl rfl (fun hG => (q_gtr rfl rfl)) ?_
    refine rg_pick rfl rfl rfl rfl rfl rfl ?_
    refine rn ?_
    change Awp _ _ _ _ _
    refine awp_len (t := 32) rfl (fun hl32 => ?_)
    (try simp only [List.length_map] at hl32)
    refine awp_cond rfl (fun hc8 => ?_) (fun hc8 => ?_)
    ·
     (try simp only [nb, ne_eq] at hc8)
     rw [if_pos (show 16 < l.length ∨ 1600 < hdN l by omega)] at hu
     refine awp_seq ?_
     refine awp_region 2 mixed (by kernel_rfl) ?_
     refine rg_q (q_assign (x := .d (.sl _ _)) rfl) (rg_q (q_a rfl) ?_)
     refine rn ?_
     change Awp _ _ _ _ _
     refine awp_ret ?_
     refine ⟨_, (.cons (.tmp (by exact .d _)) (.cons (.tmp (by exact .d _)) .nil)), ?_⟩
     rw [hu]; rfl
    ·
     (try simp only [nb, ne_eq] at hc8)
     have hl16 : l.length ≤ 16 := by omega
     have hn16 : hdN l ≤ 1600 := by omega
     rw [if_neg (by omega)] at hu
     refine awp_skip ?_
     change Awp _ _ _ _ _
     refine awp_seq ?_
     refine awp_region 1 mixed (by kernel_rfl) ?_
     refine rg_q (q_assign_nil) ?_
     refine rn ?_
     change Awp _ _ _ _ _
     refine Awp.le (le_own (k := 5) (e := 46) (sz := 1) rfl rfl) ?_
     refine awp_seq ?_
     refine awp_seq ?_
     refine awp_region 1 mixed (by kernel_rfl) ?_
     refine rg_q (q_a rfl) ?_
     refine rn ?_
     change Awp _ _ _ _ _
     refine awp_block ?_
     refine awp_loopH [2, 3, 5, 6, 7, 8, 9, 10, 11, 12, 42, 43, 44, 45, 46, 47, 48, 49, 50, 51, 52, 53, 54, 55, 56, 57, 58, 59, 60, 61, 62, 63, 64, 65, 66, 67, 68, 69, 70, 71, 72, 73, 74, 75, 76, 77, 78, 79, 80, 81, 82] [5] (α := Nat) (fun k => [(6, T.i (k : Int)), (5, .rs 5)]) (fun k => [(5, .row 46 1 (((smL l k).map czP).map cvC))]) (fun k => k ≤ hdN l ∧ mgS l 0 (hdN l) = mgS l k (hdN l - k)) (fun k => hdN l - k) 0 ⟨Nat.zero_le _, rfl⟩ ?_ ?_
     · exact le_head (ms := [5]) (by repeat (exact Out.refl _)) ⟨(by rfl), (by rfl), trivial⟩ ⟨(by rfl), trivial⟩ rfl rfl rfl rfl
     ·
      intro k ⟨hk, hf⟩
      have hvl := smL_len l k
      refine awp_seq ?_
      refine awp_seq ?_
      refine awp_region 6 mixed (by kernel_rfl) ?_
      refine rg_q (q_m rfl) (rg_q (q_move (x := .d (.sl _ _)) rfl) ?_)
      refine rg_q (q_indexAddr sl105 rfl rfl (by omega) (map_at (k := 0) (by omega) hx0)) ?_
      refine rg_q (q_load sz72 rfl rfl) ?_
      refine rg_q (q_len isl72 rfl (by exact len_map _ _)) ?_
      refine rg_q (q_lss rfl rfl) ?_
      refine rn ?_
      change Awp _ _ _ _ _
      refine awp_len (t := 45) rfl (fun hl45 => ?_)
      (try simp only [List.length_map] at hl45)
      refine awp_cond rfl (fun hc12 => ?_) (fun hc12 => ?_)
      ·
       (try simp only [nb, ne_eq] at hc12)
       have hlt : k < hdN l := by omega
       have hms := mgS_at (l := l) hlt
       rw [hms] at hf
       have hcl := colZ_len l k
       refine awp_skip ?_
       change Awp _ _ _ _ _
       refine awp_seq ?_
       refine awp_block ?_
       refine awp_seq ?_
       refine awp_region 2 mixed (by kernel_rfl) ?_
       refine rg_q (q_a rfl) (rg_q (q_a rfl) ?_)
       refine rn ?_
       change Awp _ _ _ _ _
       refine awp_seq ?_
       refine awp_seq ?_
       refine awp_region 1 mixed (by kernel_rfl) ?_
       refine rg_q (q_a rfl) ?_
       refine rn ?_
       change Awp _ _ _ _ _
       refine awp_block ?_
       refine awp_loopH [2, 3, 7, 8, 9, 10, 11, 12, 50, 51, 52, 53, 54, 55, 56, 57, 58, 59, 60, 61, 62, 63, 64, 65, 66, 67, 68, 69, 70, 71, 72, 73, 74, 75, 76] [] (α := Nat) (fun i => [(9, T.i (i : Int)), (7, .d (.v (.int .i64 ((smS ((colZ l k).take i)).1)))), (8, .d (.v (.int .i64 ((smS ((colZ l k).take i)).2))))]) (fun i => []) (fun i => i ≤ l.length ∧ peS (colZ l k) = peS ((colZ l k).drop i) ∧ ∀ z ∈ (colZ l k).take i, peI z = 0) (fun i => l.length - i) 0 ⟨Nat.zero_le _, rfl, fun z q => by simp at q⟩ ?_ ?_
       · exact le_head (ms := []) (by repeat (exact Out.refl _)) ⟨(by rfl), (by rfl), (by rfl), trivial⟩ trivial rfl rfl rfl rfl
       ·
        intro i ⟨hi, hg, hok⟩
        refine awp_seq ?_
        refine awp_seq ?_
        refine awp_region 4 mixed (by kernel_rfl) ?_
        refine rg_q (q_m rfl) (rg_q (q_move (x := .d (.sl _ _)) rfl) ?_)
        refine rg_q (q_len isl105 rfl (by exact len_map _ _)) ?_
        refine rg_q (q_lss rfl rfl) ?_
        refine rn ?_
        change Awp _ _ _ _ _
        refine awp_len (t := 51) rfl (fun hl51 => ?_)
        (try simp only [List.length_map] at hl51)
        refine awp_cond rfl (fun hc16 => ?_) (fun hc16 => ?_)
        ·
         (try simp only [nb, ne_eq] at hc16)
         have hil : i < l.length := by omega
         obtain ⟨x, hx⟩ : ∃ x, l[i]? = some x := ⟨_, List.getElem?_eq_getElem hil⟩
         have hxl := hlen x (List.mem_of_getElem? hx)
         have hzk := atZ_at (x := x) (k := k) (by omega)
         have hcz := colZ_at k hx
         have hps := peS_at hcz
         rw [hps] at hg
         have hsi := smS_in (c := colZ l k) i (by omega) hok
         have hsn := smS_snoc hcz
         refine awp_skip ?_
         change Awp _ _ _ _ _
         refine awp_seq ?_
         refine awp_block ?_
         refine awp_seq ?_
         refine awp_region 15 mixed (by kernel_rfl) ?_
         refine rg_q (q_move (x := .d (.sl _ _)) rfl) (rg_q (q_m rfl) ?_)
         refine rg_q (q_indexAddr sl105 rfl rfl (by omega) (map_at (by omega) hx)) ?_
         refine rg_q (q_load sz72 rfl rfl) (rg_q (q_m rfl) ?_)
         refine rg_q (q_indexAddr sl72 rfl rfl (by omega) (map_at (k := k) (by omega) hzk)) ?_
         refine rg_q (q_load sz46 rfl rfl) ?_
         refine rg_q (q_call en129 (.cons rfl .nil) rfl (valueErr_p (atZ x k))) ?_
         refine rg_q (q_move (x := .d (.tup _)) rfl) (rg_q (q_extract rfl rfl) (rg_q (q_extract rfl rfl) (rg_q (q_extract rfl rfl) (rg_q (q_a rfl) (rg_q (q_a rfl) ?_)))))
         refine rg_q (q_a rfl) ?_
         refine rn ?_
         change Awp _ _ _ _ _
         refine awp_seq ?_
         refine awp_seq ?_
         refine awp_region 2 mixed (by kernel_rfl) ?_
         refine rg_q (q_m rfl) (rg_q (q_neq rfl rfl) ?_)
         refine rn ?_
         change Awp _ _ _ _ _
         refine awp_cond rfl (fun hc19 => ?_) (fun hc19 => ?_)
         ·
          (try simp only [nb, ne_eq] at hc19)
          have hv : veR (atZ x k) = ((0, 0), peI (atZ x k)) := by
           unfold veR
           by_cases q : peI (atZ x k) = 0
           · unfold veR at hc19; rw [if_neg (fun w => w q)] at hc19; exact absurd rfl hc19
           · rw [if_pos q]
          have hpe : peI (atZ x k) ≠ 0 := fun q => by rw [hv, q] at hc19; exact hc19 rfl
          have he : peS (colZ l k) = peI (atZ x k) := by rw [hg, if_pos hpe]
          have hz : mgR l = ([], peI (atZ x k)) := by rw [hu, hf, he, if_pos hpe, if_pos hpe]
          refine awp_seq ?_
          refine awp_region 3 mixed (by kernel_rfl) ?_
          refine rg_q (q_m rfl) (rg_q (q_assign (x := .d (.sl _ _)) rfl) (rg_q (q_a rfl) ?_))
          refine rn ?_
          change Awp _ _ _ _ _
          refine awp_ret ?_
          refine ⟨_, (.cons (.tmp (by exact .d _)) (.cons (.tmp (by exact .d _)) .nil)), ?_⟩
          rw [hz, hv]; rfl
         ·
          (try simp only [nb, ne_eq] at hc19)
          have hz0 : peI (atZ x k) = 0 := by
           by_cases q : peI (atZ x k) = 0
           · exact q
           · unfold veR at hc19; rw [if_pos q] at hc19; exact hc19
          have hv : veR (atZ x k) = (vZ (atZ x k), 0) := by unfold veR; rw [if_neg (fun q => q hz0)]
          rw [if_neg (fun q => q hz0)] at hg
          have hvz := vZ_in hz0
          have hok2 : ∀ z ∈ (colZ l k).take (i + 1), peI z = 0 := fun z q => by
           rw [takeSnoc hcz] at q
           rcases List.mem_append.1 q with q | q
           · exact hok z q
           · rw [List.mem_singleton.1 q]; exact hz0
          have hsn2 : smS ((colZ l k).take (i + 1)) = ((smS ((colZ l k).take i)).1 + (vZ (atZ x k)).1, (smS ((colZ l k).take i)).2 + (vZ (atZ x k)).2) := hsn
          rw [hv]
          refine awp_skip ?_
          change Awp _ _ _ _ _
          refine awp_region 8 mixed (by kernel_rfl) ?_
          refine rg_q (q_m rfl) (rg_q (q_m rfl) ?_)
          refine rg_q (q_add rfl rfl (In64.mk (by (simp only; omega)) (by (simp only; omega)))) ?_
          refine rg_q (q_m rfl) (rg_q (q_m rfl) ?_)
          refine rg_q (q_add rfl rfl (In64.mk (by (simp only; omega)) (by (simp only; omega)))) ?_
          refine rg_q (q_a rfl) (rg_q (q_a rfl) ?_)
          refine rn ?_
          change Awp _ _ _ _ _
          refine awp_region 3 mixed (by kernel_rfl) ?_
          refine rg_q (q_m rfl) ?_
          refine rg_q (q_add rfl rfl (In64.mk (by omega) (by omega))) ?_
          refine rg_q (q_a rfl) ?_
          refine rn ?_
          refine ⟨i + 1, ⟨by omega, hg, hok2⟩, by omega, ?_⟩
          exact le_head (ms := []) (by repeat (first | exact Out.head rfl rfl | (refine Out.put ?_ rfl))) ⟨(by rfl), (by (show T.d _ = T.d _; (rw [hsn2]; done))), (by (show T.d _ = T.d _; (rw [hsn2]; done))), trivial⟩ trivial rfl rfl rfl rfl
        ·
         (try simp only [nb, ne_eq] at hc16)
         have hiL : i = l.length := by omega
         have hcz0 : peS (colZ l k) = 0 := by rw [hg, List.drop_of_length_le (by omega)]; rfl
         have hf2 : mgS l 0 (hdN l) = mgS l (k + 1) (hdN l - (k + 1)) := by rw [hf, if_neg (c := peS (colZ l k) ≠ 0) (fun q => q hcz0)]
         subst hiL
         have hts : (colZ l k).take l.length = colZ l k := List.take_of_length_le (by rw [hcl]; exact Nat.le_refl _)
         rw [hts]
         have hsk : ((smL l (k + 1)).map czP).map cvC = ((smL l k).map czP).map cvC ++ [cvC (czP (smS (colZ l k)))] := by rw [smL_succ, List.map_append, List.map_append]; rfl
         refine awp_exit ?_
         change Awp _ _ _ _ _
         refine awp_region 5 mixed (by kernel_rfl) ?_
         refine rg_q (q_move (x := .rs _) rfl) (rg_q (q_m rfl) (rg_q (q_m rfl) ?_))
         refine rg_q (q_call en101 (.cons rfl (.cons rfl .nil)) rfl (rnum_p _ _)) ?_
         refine rg_q (q_buildSlice sl72 zr46 rfl rfl (by decide) (.cons rfl (by exact .inl rfl) .nil) ⟨rfl, rfl, trivial⟩ rfl (by decide) rfl) ?_
         refine rg_nil ?_
         refine aops_append sl72 zr46 by46 rfl (by decide) rfl rfl rfl rfl (by (try simp only [List.length_map, List.length_append, List.length_cons, List.length_nil]); omega) (by (try simp only [List.length_map, List.length_append, List.length_cons, List.length_nil]); omega) rfl rfl ?_
         refine aops_q rfl (q_assign (x := .rs _) rfl) ?_
         refine aops_nil ?_
         change Awp _ _ _ _ _
         refine awp_region 3 mixed (by kernel_rfl) ?_
         refine rg_q (q_m rfl) ?_
         refine rg_q (q_add rfl rfl (In64.mk (by omega) (by omega))) ?_
         refine rg_q (q_a rfl) ?_
         refine rn ?_
         refine ⟨k + 1, ⟨by omega, hf2⟩, by omega, ?_⟩
         exact le_head (ms := [5]) (by repeat (first | exact Out.head rfl rfl | (refine Out.put ?_ rfl) | (refine Out.site ?_ rfl) | (refine Out.headIn ?_ rfl rfl rfl) | (refine Out.killS ?_ rfl))) ⟨(by rfl), (by rfl), trivial⟩ ⟨(by ((show Site.row _ _ _ = Site.row _ _ _; (rw [hsk]; rfl)))), trivial⟩ rfl rfl rfl rfl
      ·
       (try simp only [nb, ne_eq] at hc12)
       have hkn : k = hdN l := by omega
       have hm0 : mgS l 0 (hdN l) = 0 := by rw [hf, hkn, Nat.sub_self]; rfl
       rw [if_neg (c := mgS l 0 (hdN l) ≠ 0) (fun q => q hm0)] at hu
       subst hkn
       refine awp_exit ?_
       change Awp _ _ _ _ _
       refine awp_seq ?_
       refine awp_region 3 mixed (by kernel_rfl) ?_
       refine rg_q (q_move (x := .rs _) rfl) (rg_q (q_assign (x := .rs _) rfl) (rg_q (q_a rfl) ?_))
       refine rn ?_
       change Awp _ _ _ _ _
       refine awp_ret ?_
       refine ⟨_, (.cons (.tmp (by exact .rs rfl)) (.cons (.tmp (by exact .d _)) .nil)), ?_⟩
       rw [hu]; rfl

def sqZ (z : Nat × Nat) : Int := (vZ z).1 * (vZ z).1 + (vZ z).2 * (vZ z).2
def pwR (x : List (Nat × Nat)) : List Int × Int := if 1600 < x.length then ([], 8) else if peS x ≠ 0 then ([], peS x) else (x.map sqZ, 0)
theorem mul_self_nn (a : Int) : 0 ≤ a * a := by
  rcases Int.le_total 0 a with h | h
  · exact Int.mul_nonneg h h
  · exact Int.mul_nonneg_of_nonpos_of_nonpos h h
theorem sq_in {a : Int} (h1 : -10000000 ≤ a) (h2 : a ≤ 10000000) : 0 ≤ a * a ∧ a * a ≤ 100000000000000 := by
  have h := mulb (a := a) (b := a) (A := 10000000) (B := 10000000) (by omega) (by omega) (by omega) (by omega)
  exact ⟨mul_self_nn a, by omega⟩
set_option maxRecDepth 100000 in
theorem fsquare_p (a b : Int) (h1 : -10000000 ≤ a ∧ a ≤ 10000000) (h2 : -10000000 ≤ b ∧ b ≤ 10000000) : PC Tryz.prog 123 [.agg [.v (.int .i64 (a)), .v (.int .i64 (b))]] (.v (.int .i64 (a * a + b * b))) := by
 obtain ⟨m1, m2⟩ := sq_in h1.1 h1.2
 obtain ⟨m3, m4⟩ := sq_in h2.1 h2.2
 refine pc_of_awp Tryz.func123 rfl Tryz.ntmps123 (rs := [.tmp 2]) Tryz.results123 (by simp) fun w0 => ?_
 refine awp_seq ?_
 refine awp_region 2 mixed (by kernel_rfl) ?_
 refine rg_q (q_box rfl (by exact .inr ⟨_, rfl⟩)) ?_
 refine rg_q (q_a rfl) ?_
 refine rs (awp_region 12 mixed (by kernel_rfl) ?_)
 refine rg_q (q_fieldAddr fld160_0 rfl) (rg_q (q_load sz3 rfl rfl) (rg_q (q_fieldAddr fld160_0 rfl) (rg_q (q_load sz3 rfl rfl) ?_)))
 refine rg_q (q_mul rfl rfl (In64.mk (by omega) (by omega))) ?_
 refine rg_q (q_fieldAddr fld160_1 rfl) (rg_q (q_load sz3 rfl rfl) (rg_q (q_fieldAddr fld160_1 rfl) (rg_q (q_load sz3 rfl rfl) ?_)))
 refine rg_q (q_mul rfl rfl (In64.mk (by omega) (by omega))) ?_
 refine rg_q (q_add rfl rfl (In64.mk (by omega) (by omega))) ?_
 refine rg_q (q_a rfl) ?_
 refine rn ?_
 change Awp _ _ _ _ _
 refine awp_ret ?_
 refine ⟨_, (.cons (.tmp (by exact .d _)) .nil), ?_⟩
 rfl
set_option maxRecDepth 100000 in
theorem powers_p (x : List (Nat × Nat)) : PC Tryz.prog 58 [.sl 1 (x.map cvC)] (.tup [.sl 1 ((pwR x).1.map iC), .v (.int .i64 ((pwR x).2))]) := by
 have hu : pwR x = if 1600 < x.length then ([], 8) else if peS x ≠ 0 then ([], peS x) else (x.map sqZ, 0) := rfl
 refine pc_of_awpN Tryz.func58 rfl Tryz.ntmps58 (rs := [.tmp 2, .tmp 3]) Tryz.results58 (by simp) fun w0 hmine hrnd hpn => ?_
 refine awp_seq ?_
 refine awp_region 2 mixed (by kernel_rfl) ?_
 refine rg_q (q_assign (x := .d (.sl _ _)) rfl) (rg_q (q_a rfl) ?_)
 refine rn ?_
 change Awp _ _ _ _ _
 refine awp_seq ?_
 refine awp_seq ?_
 refine awp_region 3 mixed (by kernel_rfl) ?_
 refine rg_q (q_move (x := .d (.sl _ _)) rfl) ?_
 refine rg_q (q_len isl72 rfl (by exact len_map _ _)) ?_
 refine rg_q (q_gtr rfl rfl) ?_
 refine rn ?_
 change Awp _ _ _ _ _
 refine awp_len (t := 8) rfl (fun hl8 => ?_)
 (try simp only [List.length_map] at hl8)
 refine awp_cond rfl (fun hc1 => ?_) (fun hc1 => ?_)
 ·
  (try simp only [nb, ne_eq] at hc1)
  rw [if_pos (by omega)] at hu
  refine awp_seq ?_
  refine awp_region 2 mixed (by kernel_rfl) ?_
  refine rg_q (q_assign (x := .d (.sl _ _)) rfl) (rg_q (q_a rfl) ?_)
  refine rn ?_
  change Awp _ _ _ _ _
  refine awp_ret ?_
  refine ⟨_, (.cons (.tmp (by exact .d _)) (.cons (.tmp (by exact .d _)) .nil)), ?_⟩
  rw [hu]; rfl
 ·
  (try simp only [nb, ne_eq] at hc1)
  rw [if_neg (by omega)] at hu
  refine awp_skip ?_
  change Awp _ _ _ _ _
  refine awp_seq ?_
  refine awp_region 1 mixed (by kernel_rfl) ?_
  refine rg_q (q_assign_nil) ?_
  refine rn ?_
  change Awp _ _ _ _ _
  refine Awp.le (le_own (k := 4) (e := 3) (sz := 1) rfl rfl) ?_
  refine awp_seq ?_
  refine awp_seq ?_
  refine awp_region 3 mixed (by kernel_rfl) ?_
  refine rg_q (q_move (x := .d (.sl _ _)) rfl) ?_
  refine rg_q (q_len isl72 rfl (by exact len_map _ _)) ?_
  refine rg_q (q_m rfl) ?_
  refine rn ?_
  change Awp _ _ _ _ _
  refine awp_len (t := 11) rfl (fun hl11 => ?_)
  (try simp only [List.length_map] at hl11)
  refine awp_block ?_
  refine awp_loopH [2, 3, 4, 6, 7, 13, 14, 15, 16, 17, 18, 19, 20, 21, 22, 23, 24, 25, 26, 27, 28] [4] (α := Nat) (fun i => [(13, T.i (i : Int)), (4, .rs 4)]) (fun i => [(4, .row 3 1 (((x.take i).map sqZ).map iC))]) (fun i => i ≤ x.length ∧ peS x = peS (x.drop i)) (fun i => x.length - i) 0 ⟨Nat.zero_le _, rfl⟩ ?_ ?_
  · exact le_head (ms := [4]) (by repeat (exact Out.refl _)) ⟨(by rfl), (by rfl), trivial⟩ ⟨(by rfl), trivial⟩ rfl rfl rfl rfl
  ·
   intro i ⟨hi, hf⟩
   have htl : (x.take i).length ≤ i := by rw [List.length_take]; omega
   refine awp_seq ?_
   refine awp_region 1 mixed (by kernel_rfl) ?_
   refine rg_q (q_lss rfl rfl) ?_
   refine rn ?_
   change Awp _ _ _ _ _
   refine awp_seq ?_
   refine awp_cond rfl (fun hc5 => ?_) (fun hc5 => ?_)
   ·
    (try simp only [nb, ne_eq] at hc5)
    have hlt : i < x.length := by omega
    obtain ⟨z, hz⟩ : ∃ z, x[i]? = some z := ⟨_, List.getElem?_eq_getElem hlt⟩
    have hps := peS_at hz
    rw [hps] at hf
    refine awp_skip ?_
    change Awp _ _ _ _ _
    refine awp_seq ?_
    refine awp_block ?_
    refine awp_seq ?_
    refine awp_region 3 mixed (by kernel_rfl) ?_
    refine rg_q (q_indexAddr sl72 rfl rfl (by omega) (map_at (by omega) hz)) ?_
    refine rg_q (q_load sz46 rfl rfl) (rg_q (q_a rfl) ?_)
    refine rn ?_
    change Awp _ _ _ _ _
    refine awp_seq ?_
    refine awp_seq ?_
    refine awp_region 3 mixed (by kernel_rfl) ?_
    refine rg_q (q_m rfl) ?_
    refine rg_q (q_call en127 (.cons rfl .nil) rfl (partErr_p z)) ?_
    refine rg_q (q_a rfl) ?_
    refine rs (awp_region 2 mixed (by kernel_rfl) ?_)
    refine rg_q (q_m rfl) (rg_q (q_neq rfl rfl) ?_)
    refine rn ?_
    change Awp _ _ _ _ _
    refine awp_cond rfl (fun hc8 => ?_) (fun hc8 => ?_)
    ·
     (try simp only [nb, ne_eq] at hc8)
     rw [if_pos hc8] at hf
     have hpx : pwR x = ([], peI z) := by rw [hu, hf, if_pos hc8]
     refine awp_seq ?_
     refine awp_region 3 mixed (by kernel_rfl) ?_
     refine rg_q (q_m rfl) (rg_q (q_assign (x := .d (.sl _ _)) rfl) (rg_q (q_a rfl) ?_))
     refine rn ?_
     change Awp _ _ _ _ _
     refine awp_ret ?_
     refine ⟨_, (.cons (.tmp (by exact .d _)) (.cons (.tmp (by exact .d _)) .nil)), ?_⟩
     rw [hpx]; rfl
    ·
     (try simp only [nb, ne_eq] at hc8)
     have hz0 : peI z = 0 := hc8
     rw [if_neg (c := peI z ≠ 0) (fun q => q hz0)] at hf
     have hvz := vZ_in hz0
     obtain ⟨hvz1, hvz2⟩ := hvz
     obtain ⟨m1, m2⟩ := sq_in hvz1.1 hvz1.2
     obtain ⟨m3, m4⟩ := sq_in hvz2.1 hvz2.2
     have hsk : ((x.take (i + 1)).map sqZ).map iC = ((x.take i).map sqZ).map iC ++ [iC (sqZ z)] := by rw [takeSnoc hz, List.map_append, List.map_append]; rfl
     refine awp_skip ?_
     change Awp _ _ _ _ _
     refine awp_region 5 mixed (by kernel_rfl) ?_
     refine rg_q (q_move (x := .rs _) rfl) (rg_q (q_m rfl) ?_)
     refine rg_q (q_call en128 (.cons rfl .nil) rfl (sumOf_p z hz0)) ?_
     refine rg_q (q_call en123 (.cons rfl .nil) rfl (fsquare_p _ _ hvz1 hvz2)) ?_
     refine rg_q (q_buildSlice sl77 zr3 rfl rfl (by decide) (.cons rfl (by exact .inl rfl) .nil) ⟨rfl, rfl, trivial⟩ rfl (by decide) rfl) ?_
     refine rg_nil ?_
     refine aops_append sl77 zr3 by3 rfl (by decide) rfl rfl rfl rfl (by (try simp only [List.length_map, List.length_append, List.length_cons, List.length_nil]); omega) (by (try simp only [List.length_map, List.length_append, List.length_cons, List.length_nil]); omega) rfl rfl ?_
     refine aops_q rfl (q_assign (x := .rs _) rfl) ?_
     refine aops_nil ?_
     change Awp _ _ _ _ _
     refine awp_region 2 mixed (by kernel_rfl) ?_
     refine rg_q (q_add rfl rfl (In64.mk (by omega) (by omega))) ?_
     refine rg_q (q_m rfl) ?_
     refine rn ?_
     refine ⟨i + 1, ⟨by omega, hf⟩, by omega, ?_⟩
     exact le_head (ms := [4]) (by repeat (first | exact Out.head rfl rfl | (refine Out.put ?_ rfl) | (refine Out.site ?_ rfl) | (refine Out.killS ?_ rfl))) ⟨(by rfl), (by rfl), trivial⟩ ⟨(by ((show Site.row _ _ _ = Site.row _ _ _; (rw [hsk]; rfl)))), trivial⟩ rfl rfl rfl rfl
   ·
    (try simp only [nb, ne_eq] at hc5)
    have hiL : i = x.length := by omega
    have hp0 : peS x = 0 := by rw [hf, List.drop_of_length_le (by omega)]; rfl
    rw [if_neg (c := peS x ≠ 0) (fun q => q hp0)] at hu
    subst hiL
    rw [List.take_length]
    refine awp_exit ?_
    change Awp _ _ _ _ _
    refine awp_seq ?_
    refine awp_region 3 mixed (by kernel_rfl) ?_
    refine rg_q (q_move (x := .rs _) rfl) (rg_q (q_assign (x := .rs _) rfl) (rg_q (q_a rfl) ?_))
    refine rn ?_
    change Awp _ _ _ _ _
    refine awp_ret ?_
    refine ⟨_, (.cons (.tmp (by exact .rs rfl)) (.cons (.tmp (by exact .d _)) .nil)), ?_⟩
    rw [hu]; rfl
set_option maxRecDepth 100000 in
theorem rpowers_p (x : List (Nat × Nat)) : PC Tryz.prog 59 [.sl 1 (x.map cvC)] (.tup [.sl 1 ((pwR x).1.map iC), .v (.int .i64 ((pwR x).2))]) := by
 have hu : pwR x = if 1600 < x.length then ([], 8) else if peS x ≠ 0 then ([], peS x) else (x.map sqZ, 0) := rfl
 refine pc_of_awpN Tryz.func59 rfl Tryz.ntmps59 (rs := [.tmp 2, .tmp 3]) Tryz.results59 (by simp) fun w0 hmine hrnd hpn => ?_
 refine awp_seq ?_
 refine awp_region 2 mixed (by kernel_rfl) ?_
 refine rg_q (q_assign (x := .d (.sl _ _)) rfl) (rg_q (q_a rfl) ?_)
 refine rn ?_
 change Awp _ _ _ _ _
 refine awp_seq ?_
 refine awp_seq ?_
 refine awp_region 3 mixed (by kernel_rfl) ?_
 refine rg_q (q_move (x := .d (.sl _ _)) rfl) ?_
 refine rg_q (q_len isl72 rfl (by exact len_map _ _)) ?_
 refine rg_q (q_gtr rfl rfl) ?_
 refine rn ?_
 change Awp _ _ _ _ _
 refine awp_len (t := 9) rfl (fun hl9 => ?_)
 (try simp only [List.length_map] at hl9)
 refine awp_cond rfl (fun hc1 => ?_) (fun hc1 => ?_)
 ·
  (try simp only [nb, ne_eq] at hc1)
  rw [if_pos (by omega)] at hu
  refine awp_seq ?_
  refine awp_region 2 mixed (by kernel_rfl) ?_
  refine rg_q (q_assign (x := .d (.sl _ _)) rfl) (rg_q (q_a rfl) ?_)
  refine rn ?_
  change Awp _ _ _ _ _
  refine awp_ret ?_
  refine ⟨_, (.cons (.tmp (by exact .d _)) (.cons (.tmp (by exact .d _)) .nil)), ?_⟩
  rw [hu]; rfl
 ·
  (try simp only [nb, ne_eq] at hc1)
  rw [if_neg (by omega)] at hu
  refine awp_skip ?_
  change Awp _ _ _ _ _
  refine awp_seq ?_
  refine awp_region 1 mixed (by kernel_rfl) ?_
  refine rg_q (q_assign_nil) ?_
  refine rn ?_
  change Awp _ _ _ _ _
  refine Awp.le (le_own (k := 4) (e := 3) (sz := 1) rfl rfl) ?_
  refine awp_seq ?_
  refine awp_seq ?_
  refine awp_region 1 mixed (by kernel_rfl) ?_
  refine rg_q (q_a rfl) ?_
  refine rn ?_
  change Awp _ _ _ _ _
  refine awp_block ?_
  refine awp_loopH [2, 3, 4, 5, 6, 7, 8, 12, 13, 14, 15, 16, 17, 18, 19, 20, 21, 22, 23, 24, 25, 26, 27, 28, 29, 30, 31, 32, 33, 34, 35, 36, 37, 38, 39] [4] (α := Nat) (fun i => [(5, T.i (i : Int)), (4, .rs 4)]) (fun i => [(4, .row 3 1 (((x.take i).map sqZ).map iC))]) (fun i => i ≤ x.length ∧ peS x = peS (x.drop i)) (fun i => x.length - i) 0 ⟨Nat.zero_le _, rfl⟩ ?_ ?_
  · exact le_head (ms := [4]) (by repeat (exact Out.refl _)) ⟨(by rfl), (by rfl), trivial⟩ ⟨(by rfl), trivial⟩ rfl rfl rfl rfl
  ·
   intro i ⟨hi, hf⟩
   have htl : (x.take i).length ≤ i := by rw [List.length_take]; omega
   refine awp_seq ?_
   refine awp_seq ?_
   refine awp_region 4 mixed (by kernel_rfl) ?_
   refine rg_q (q_m rfl) (rg_q (q_move (x := .d (.sl _ _)) rfl) ?_)
   refine rg_q (q_len isl72 rfl (by exact len_map _ _)) ?_
   refine rg_q (q_lss rfl rfl) ?_
   refine rn ?_
   change Awp _ _ _ _ _
   refine awp_len (t := 13) rfl (fun hl13 => ?_)
   (try simp only [List.length_map] at hl13)
   refine awp_cond rfl (fun hc5 => ?_) (fun hc5 => ?_)
   ·
    (try simp only [nb, ne_eq] at hc5)
    have hlt : i < x.length := by omega
    obtain ⟨z, hz⟩ : ∃ z, x[i]? = some z := ⟨_, List.getElem?_eq_getElem hlt⟩
    have hps := peS_at hz
    rw [hps] at hf
    refine awp_skip ?_
    change Awp _ _ _ _ _
    refine awp_seq ?_
    refine awp_block ?_
    refine awp_seq ?_
    refine awp_region 12 mixed (by kernel_rfl) ?_
    refine rg_q (q_move (x := .d (.sl _ _)) rfl) (rg_q (q_m rfl) ?_)
    refine rg_q (q_indexAddr sl72 rfl rfl (by omega) (map_at (by omega) hz)) ?_
    refine rg_q (q_load sz46 rfl rfl) ?_
    refine rg_q (q_call en129 (.cons rfl .nil) rfl (valueErr_p z)) ?_
    refine rg_q (q_move (x := .d (.tup _)) rfl) (rg_q (q_extract rfl rfl) (rg_q (q_extract rfl rfl) (rg_q (q_extract rfl rfl) (rg_q (q_a rfl) (rg_q (q_a rfl) ?_)))))
    refine rg_q (q_a rfl) ?_
    refine rn ?_
    change Awp _ _ _ _ _
    refine awp_seq ?_
    refine awp_seq ?_
    refine awp_region 2 mixed (by kernel_rfl) ?_
    refine rg_q (q_m rfl) (rg_q (q_neq rfl rfl) ?_)
    refine rn ?_
    change Awp _ _ _ _ _
    refine awp_cond rfl (fun hc8 => ?_) (fun hc8 => ?_)
    ·
     (try simp only [nb, ne_eq] at hc8)
     have hv : veR (z) = ((0, 0), peI (z)) := by
      unfold veR
      by_cases q : peI (z) = 0
      · unfold veR at hc8; rw [if_neg (fun w => w q)] at hc8; exact absurd rfl hc8
      · rw [if_pos q]
     have hpe : peI (z) ≠ 0 := fun q => by rw [hv, q] at hc8; exact hc8 rfl
     rw [if_pos hpe] at hf
     have hpx : pwR x = ([], peI z) := by rw [hu, hf, if_pos hpe]
     refine awp_seq ?_
     refine awp_region 3 mixed (by kernel_rfl) ?_
     refine rg_q (q_m rfl) (rg_q (q_assign (x := .d (.sl _ _)) rfl) (rg_q (q_a rfl) ?_))
     refine rn ?_
     change Awp _ _ _ _ _
     refine awp_ret ?_
     refine ⟨_, (.cons (.tmp (by exact .d _)) (.cons (.tmp (by exact .d _)) .nil)), ?_⟩
     rw [hpx, hv]; rfl
    ·
     (try simp only [nb, ne_eq] at hc8)
     have hz0 : peI (z) = 0 := by
      by_cases q : peI (z) = 0
      · exact q
      · unfold veR at hc8; rw [if_pos q] at hc8; exact hc8
     have hv : veR (z) = (vZ (z), 0) := by unfold veR; rw [if_neg (fun q => q hz0)]
     rw [if_neg (c := peI z ≠ 0) (fun q => q hz0)] at hf
     have hvz := vZ_in hz0
     obtain ⟨hvz1, hvz2⟩ := hvz
     obtain ⟨m1, m2⟩ := sq_in hvz1.1 hvz1.2
     obtain ⟨m3, m4⟩ := sq_in hvz2.1 hvz2.2
     have hsk : ((x.take (i + 1)).map sqZ).map iC = ((x.take i).map sqZ).map iC ++ [iC (sqZ z)] := by rw [takeSnoc hz, List.map_append, List.map_append]; rfl
     rw [hv]
     refine awp_skip ?_
     change Awp _ _ _ _ _
     refine awp_region 9 mixed (by kernel_rfl) ?_
     refine rg_q (q_move (x := .rs _) rfl) (rg_q (q_m rfl) (rg_q (q_m rfl) ?_))
     refine rg_q (q_mul rfl rfl (In64.mk (by (simp only; omega)) (by (simp only; omega)))) ?_
     refine rg_q (q_m rfl) (rg_q (q_m rfl) ?_)
     refine rg_q (q_mul rfl rfl (In64.mk (by (simp only; omega)) (by (simp only; omega)))) ?_
     refine rg_q (q_add rfl rfl (In64.mk (by (simp only; omega)) (by (simp only; omega)))) ?_
     refine rg_q (q_buildSlice sl77 zr3 rfl rfl (by decide) (.cons rfl (by exact .inl rfl) .nil) ⟨rfl, rfl, trivial⟩ rfl (by decide) rfl) ?_
     refine rg_nil ?_
     refine aops_append sl77 zr3 by3 rfl (by decide) rfl rfl rfl rfl (by (try simp only [List.length_map, List.length_append, List.length_cons, List.length_nil]); omega) (by (try simp only [List.length_map, List.length_append, List.length_cons, List.length_nil]); omega) rfl rfl ?_
     refine aops_q rfl (q_assign (x := .rs _) rfl) ?_
     refine aops_nil ?_
     change Awp _ _ _ _ _
     refine awp_region 3 mixed (by kernel_rfl) ?_
     refine rg_q (q_m rfl) ?_
     refine rg_q (q_add rfl rfl (In64.mk (by omega) (by omega))) ?_
     refine rg_q (q_a rfl) ?_
     refine rn ?_
     refine ⟨i + 1, ⟨by omega, hf⟩, by omega, ?_⟩
     exact le_head (ms := [4]) (by repeat (first | exact Out.head rfl rfl | (refine Out.put ?_ rfl) | (refine Out.site ?_ rfl) | (refine Out.killS ?_ rfl))) ⟨(by rfl), (by rfl), trivial⟩ ⟨(by ((show Site.row _ _ _ = Site.row _ _ _; (rw [hsk]; rfl)))), trivial⟩ rfl rfl rfl rfl
   ·
    (try simp only [nb, ne_eq] at hc5)
    have hiL : i = x.length := by omega
    have hp0 : peS x = 0 := by rw [hf, List.drop_of_length_le (by omega)]; rfl
    rw [if_neg (c := peS x ≠ 0) (fun q => q hp0)] at hu
    subst hiL
    rw [List.take_length]
    refine awp_exit ?_
    change Awp _ _ _ _ _
    refine awp_seq ?_
    refine awp_region 3 mixed (by kernel_rfl) ?_
    refine rg_q (q_move (x := .rs _) rfl) (rg_q (q_assign (x := .rs _) rfl) (rg_q (q_a rfl) ?_))
    refine rn ?_
    change Awp _ _ _ _ _
    refine awp_ret ?_
    refine ⟨_, (.cons (.tmp (by exact .rs rfl)) (.cons (.tmp (by exact .d _)) .nil)), ?_⟩
    rw [hu]; rfl

def flC (b : Nat) : List D := [.v (.float .f64 b)]
def nA (p : List Nat) (i : Nat) : Nat := p.getD i 0
theorem nA_at {p : List Nat} {i : Nat} (h : i < p.length) : p[i]? = some (nA p i) := by
  unfold nA
  rw [List.getD_eq_getElem?_getD, List.getElem?_eq_getElem h]; rfl
def imF (p : List Nat) (k : Nat) : List (Nat × Nat) := (List.range k).map fun i => (nA p (2 * i), nA p (2 * i + 1))
theorem imF_succ (p : List Nat) (k : Nat) : imF p (k + 1) = imF p k ++ [(nA p (2 * k), nA p (2 * k + 1))] := by unfold imF; rw [List.range_succ, List.map_append]; rfl
theorem imF_len (p : List Nat) (k : Nat) : (imF p k).length = k := by unfold imF; rw [List.length_map, List.length_range]
def imP (p : List Nat) : List (Nat × Nat) := imF p (p.length / 2)
def flL (p : List Nat) : List D := [.sl 1 (p.map flC)]
set_option maxRecDepth 100000 in
theorem image57_p (p : List Nat) (hp : p.length ≤ 1000) : PC Tryz.prog 57 [.sl 1 (p.map flC)] (.sl 1 ((imP p).map cvC)) := by
 refine pc_of_awpN Tryz.func57 rfl Tryz.ntmps57 (rs := [.tmp 2]) Tryz.results57 (by simp) fun w0 hmine hrnd hpn => ?_
 refine awp_seq ?_
 refine awp_region 1 mixed (by kernel_rfl) ?_
 refine rg_q (q_assign (x := .d (.sl _ _)) rfl) ?_
 refine rs (awp_region 1 mixed (by kernel_rfl) ?_)
 refine rg_q (q_assign_nil) ?_
 refine rn ?_
 change Awp _ _ _ _ _
 refine Awp.le (le_own (k := 3) (e := 46) (sz := 1) rfl rfl) ?_
 refine awp_seq ?_
 refine awp_seq ?_
 refine awp_region 1 mixed (by kernel_rfl) ?_
 refine rg_q (q_a rfl) ?_
 refine rn ?_
 change Awp _ _ _ _ _
 refine awp_block ?_
 refine awp_loopH [3, 4, 5, 6, 7, 8, 9, 10, 11, 12, 13, 14, 15, 16, 17, 18, 19, 20, 21, 22, 23, 24] [3] (α := Nat) (fun k => [(4, T.i ((2 * k : Nat) : Int)), (3, .rs 3)]) (fun k => [(3, .row 46 1 ((imF p k).map cvC))]) (fun k => k ≤ p.length / 2) (fun k => p.length / 2 - k) 0 (Nat.zero_le _) ?_ ?_
 · exact le_head (ms := [3]) (by repeat (exact Out.refl _)) ⟨(by rfl), (by rfl), trivial⟩ ⟨(by rfl), trivial⟩ rfl rfl rfl rfl
 ·
  intro k hk
  have hvl := imF_len p k
  refine awp_seq ?_
  refine awp_seq ?_
  refine awp_region 5 mixed (by kernel_rfl) ?_
  refine rg_q (q_m rfl) ?_
  refine rg_q (q_add rfl rfl (In64.mk (by omega) (by omega))) ?_
  refine rg_q (q_move (x := .d (.sl _ _)) rfl) ?_
  refine rg_q (q_len isl107 rfl (by exact len_map _ _)) ?_
  refine rg_q (q_lss rfl rfl) ?_
  refine rn ?_
  change Awp _ _ _ _ _
  refine awp_len (t := 7) rfl (fun hl7 => ?_)
  (try simp only [List.length_map] at hl7)
  refine awp_cond rfl (fun hc3 => ?_) (fun hc3 => ?_)
  ·
   (try simp only [nb, ne_eq] at hc3)
   have h1 := nA_at (p := p) (i := 2 * k) (by omega)
   have h2 := nA_at (p := p) (i := 2 * k + 1) (by omega)
   have hsk : (imF p (k + 1)).map cvC = (imF p k).map cvC ++ [cvC (nA p (2 * k), nA p (2 * k + 1))] := by rw [imF_succ, List.map_append]; rfl
   have hkk : k < p.length / 2 := by omega
   refine awp_skip ?_
   change Awp _ _ _ _ _
   refine awp_seq ?_
   refine awp_block ?_
   refine awp_region 12 mixed (by kernel_rfl) ?_
   refine rg_q (q_move (x := .rs _) rfl) (rg_q (q_move (x := .d (.sl _ _)) rfl) (rg_q (q_m rfl) ?_))
   refine rg_q (q_indexAddr sl107 rfl rfl (by omega) (map_at (k := 2 * k) (by omega) h1)) ?_
   refine rg_q (q_load sz167 rfl rfl) (rg_q (q_move (x := .d (.sl _ _)) rfl) (rg_q (q_m rfl) ?_))
   refine rg_q (q_add rfl rfl (In64.mk (by omega) (by omega))) ?_
   refine rg_q (q_indexAddr sl107 rfl rfl (by omega) (map_at (k := 2 * k + 1) (by omega) h2)) ?_
   refine rg_q (q_load sz167 rfl rfl) ?_
   refine rg_q (q_complex rfl rfl) ?_
   refine rg_q (q_buildSlice sl72 zr46 rfl rfl (by decide) (.cons rfl (by exact .inl rfl) .nil) ⟨rfl, rfl, trivial⟩ rfl (by decide) rfl) ?_
   refine rg_nil ?_
   refine aops_append sl72 zr46 by46 rfl (by decide) rfl rfl rfl rfl (by (try simp only [List.length_map, List.length_append, List.length_cons, List.length_nil]); omega) (by (try simp only [List.length_map, List.length_append, List.length_cons, List.length_nil]); omega) rfl rfl ?_
   refine aops_q rfl (q_assign (x := .rs _) rfl) ?_
   refine aops_nil ?_
   change Awp _ _ _ _ _
   refine awp_region 3 mixed (by kernel_rfl) ?_
   refine rg_q (q_m rfl) ?_
   refine rg_q (q_add rfl rfl (In64.mk (by omega) (by omega))) ?_
   refine rg_q (q_a rfl) ?_
   refine rn ?_
   refine ⟨k + 1, by omega, by omega, ?_⟩
   exact le_head (ms := [3]) (by repeat (first | exact Out.head rfl rfl | (refine Out.put ?_ rfl) | (refine Out.site ?_ rfl) | (refine Out.killS ?_ rfl))) ⟨(by rfl), (by rfl), trivial⟩ ⟨(by ((show Site.row _ _ _ = Site.row _ _ _; (rw [hsk]; rfl)))), trivial⟩ rfl rfl rfl rfl
  ·
   (try simp only [nb, ne_eq] at hc3)
   have hkn : k = p.length / 2 := by omega
   subst hkn
   refine awp_exit ?_
   change Awp _ _ _ _ _
   refine awp_seq ?_
   refine awp_region 2 mixed (by kernel_rfl) ?_
   refine rg_q (q_move (x := .rs _) rfl) (rg_q (q_assign (x := .rs _) rfl) ?_)
   refine rn ?_
   change Awp _ _ _ _ _
   refine awp_ret ?_
   refine ⟨_, (.cons (.tmp (by exact .rs rfl)) .nil), ?_⟩
   rfl
set_option maxRecDepth 100000 in
theorem focusMerges_p (l : List (List Nat)) : PC Tryz.prog 11 [.sl 1 (l.map flL)] (.v (.bool (true))) := by
 refine pc_of_awpN Tryz.func11 rfl Tryz.ntmps11 (rs := [.tmp 2]) Tryz.results11 (by simp) fun w0 hmine hrnd hpn => ?_
 refine awp_seq ?_
 refine awp_region 1 mixed (by kernel_rfl) ?_
 refine rg_q (q_a rfl) ?_
 refine rn ?_
 change Awp _ _ _ _ _
 refine awp_seq ?_
 refine awp_seq ?_
 refine awp_region 2 mixed (by kernel_rfl) ?_
 refine rg_q (q_call en18 .nil rfl (awake5_p)) ?_
 refine rg_q (q_not rfl) ?_
 refine rn ?_
 change Awp _ _ _ _ _
 refine awp_cond rfl (fun hc1 => ?_) (fun hc1 => ?_)
 ·
  simp at hc1
 ·
  (try simp only [nb, ne_eq] at hc1)
  refine awp_skip ?_
  change Awp _ _ _ _ _
  refine awp_seq ?_
  refine awp_seq ?_
  refine awp_region 3 mixed (by kernel_rfl) ?_
  refine rg_q (q_move (x := .d (.sl _ _)) rfl) ?_
  refine rg_q (q_len isl104 rfl (by exact len_map _ _)) ?_
  refine rg_q (q_gtr rfl rfl) ?_
  refine rn ?_
  change Awp _ _ _ _ _
  refine awp_len (t := 15) rfl (fun hl15 => ?_)
  (try simp only [List.length_map] at hl15)
  refine awp_cond rfl (fun hc3 => ?_) (fun hc3 => ?_)
  ·
   (try simp only [nb, ne_eq] at hc3)
   refine awp_seq ?_
   refine awp_region 1 mixed (by kernel_rfl) ?_
   refine rg_q (q_a rfl) ?_
   refine rn ?_
   change Awp _ _ _ _ _
   refine awp_ret ?_
   refine ⟨_, (.cons (.tmp (by exact .d _)) .nil), ?_⟩
   rfl
  ·
   (try simp only [nb, ne_eq] at hc3)
   have hl18 : l.length ≤ 18 := by omega
   refine awp_skip ?_
   change Awp _ _ _ _ _
   refine awp_seq ?_
   refine awp_region 1 mixed (by kernel_rfl) ?_
   refine rg_q (q_assign_nil) ?_
   refine rn ?_
   change Awp _ _ _ _ _
   refine Awp.le (le_own (k := 3) (e := 72) (sz := 1) rfl rfl) ?_
   refine awp_seq ?_
   refine awp_seq ?_
   refine awp_region 1 mixed (by kernel_rfl) ?_
   refine rg_q (q_a rfl) ?_
   refine rn ?_
   change Awp _ _ _ _ _
   refine awp_block ?_
   refine awp_loopH [2, 3, 4, 5, 6, 7, 8, 18, 19, 20, 21, 22, 23, 24, 25, 26, 27, 28, 29, 30, 31, 32, 33, 34, 35, 36, 37, 38, 39, 40, 41, 42, 43, 44, 45, 46, 47, 48, 49, 50, 51, 52, 53, 54, 55, 56, 57, 58, 59, 60, 61, 62, 63, 64] [3] (α := Nat) (fun i => [(4, T.i (i : Int)), (3, .rs 3)]) (fun i => [(3, .row 72 1 (((l.take i).map imP).map imC))]) (fun i => i ≤ l.length) (fun i => l.length - i) 0 (Nat.zero_le _) ?_ ?_
   · exact le_head (ms := [3]) (by repeat (exact Out.refl _)) ⟨(by rfl), (by rfl), trivial⟩ ⟨(by rfl), trivial⟩ rfl rfl rfl rfl
   ·
    intro i hi
    have htl : (l.take i).length ≤ i := by rw [List.length_take]; omega
    refine awp_seq ?_
    refine awp_seq ?_
    refine awp_region 4 mixed (by kernel_rfl) ?_
    refine rg_q (q_m rfl) (rg_q (q_move (x := .d (.sl _ _)) rfl) ?_)
    refine rg_q (q_len isl104 rfl (by exact len_map _ _)) ?_
    refine rg_q (q_lss rfl rfl) ?_
    refine rn ?_
    change Awp _ _ _ _ _
    refine awp_len (t := 19) rfl (fun hl19 => ?_)
    (try simp only [List.length_map] at hl19)
    refine awp_cond rfl (fun hc7 => ?_) (fun hc7 => ?_)
    ·
     (try simp only [nb, ne_eq] at hc7)
     have hlt : i < l.length := by omega
     obtain ⟨x, hx⟩ : ∃ x, l[i]? = some x := ⟨_, List.getElem?_eq_getElem hlt⟩
     refine awp_skip ?_
     change Awp _ _ _ _ _
     refine awp_seq ?_
     refine awp_block ?_
     refine awp_seq ?_
     refine awp_seq ?_
     refine awp_region 6 mixed (by kernel_rfl) ?_
     refine rg_q (q_move (x := .d (.sl _ _)) rfl) (rg_q (q_m rfl) ?_)
     refine rg_q (q_indexAddr sl104 rfl rfl (by omega) (map_at (by omega) hx)) ?_
     refine rg_q (q_load sz107 rfl rfl) ?_
     refine rg_q (q_len isl107 rfl (by exact len_map _ _)) ?_
     refine rg_q (q_gtr rfl rfl) ?_
     refine rn ?_
     change Awp _ _ _ _ _
     refine awp_len (t := 27) rfl (fun hl27 => ?_)
     (try simp only [List.length_map] at hl27)
     refine awp_cond rfl (fun hc9 => ?_) (fun hc9 => ?_)
     ·
      (try simp only [nb, ne_eq] at hc9)
      refine awp_seq ?_
      refine awp_region 1 mixed (by kernel_rfl) ?_
      refine rg_q (q_a rfl) ?_
      refine rn ?_
      change Awp _ _ _ _ _
      refine awp_ret ?_
      refine ⟨_, (.cons (.tmp (by exact .d _)) .nil), ?_⟩
      rfl
     ·
      (try simp only [nb, ne_eq] at hc9)
      have hx20 : x.length ≤ 20 := by omega
      have hsk : ((l.take (i + 1)).map imP).map imC = ((l.take i).map imP).map imC ++ [imC (imP x)] := by rw [takeSnoc hx, List.map_append, List.map_append]; rfl
      refine awp_skip ?_
      change Awp _ _ _ _ _
      refine awp_seq ?_
      refine awp_region 7 mixed (by kernel_rfl) ?_
      refine rg_q (q_move (x := .rs _) rfl) (rg_q (q_move (x := .d (.sl _ _)) rfl) (rg_q (q_m rfl) ?_))
      refine rg_q (q_indexAddr sl104 rfl rfl (by omega) (map_at (by omega) hx)) ?_
      refine rg_q (q_load sz107 rfl rfl) ?_
      refine rg_q (q_call en57 (.cons rfl .nil) rfl (image57_p _ (by omega))) ?_
      refine rg_q (q_buildSlice sl105 zr72 rfl rfl (by decide) (.cons rfl (by exact .inl rfl) .nil) ⟨rfl, rfl, trivial⟩ rfl (by decide) rfl) ?_
      refine rg_nil ?_
      refine aops_append sl105 zr72 by72 rfl (by decide) rfl rfl rfl rfl (by (try simp only [List.length_map, List.length_append, List.length_cons, List.length_nil]); omega) (by (try simp only [List.length_map, List.length_append, List.length_cons, List.length_nil]); omega) rfl rfl ?_
      refine aops_q rfl (q_assign (x := .rs _) rfl) ?_
      refine aops_nil ?_
      change Awp _ _ _ _ _
      refine awp_seq ?_
      refine awp_region 11 mixed (by kernel_rfl) ?_
      refine rg_q (q_move (x := .d (.sl _ _)) rfl) (rg_q (q_m rfl) ?_)
      refine rg_q (q_indexAddr sl104 rfl rfl (by omega) (map_at (by omega) hx)) ?_
      refine rg_q (q_load sz107 rfl rfl) ?_
      refine rg_q (q_call en57 (.cons rfl .nil) rfl (image57_p _ (by omega))) ?_
      refine rg_q (q_call en58 (.cons rfl .nil) rfl (powers_p _)) ?_
      refine rg_q (q_move (x := .d (.tup _)) rfl) (rg_q (q_extract rfl rfl) (rg_q (q_extract rfl rfl) (rg_q (q_assign (x := .d (.sl _ _)) rfl) (rg_q (q_a rfl) ?_))))
      refine rs (awp_region 11 mixed (by kernel_rfl) ?_)
      refine rg_q (q_move (x := .d (.sl _ _)) rfl) (rg_q (q_m rfl) ?_)
      refine rg_q (q_indexAddr sl104 rfl rfl (by omega) (map_at (by omega) hx)) ?_
      refine rg_q (q_load sz107 rfl rfl) ?_
      refine rg_q (q_call en57 (.cons rfl .nil) rfl (image57_p _ (by omega))) ?_
      refine rg_q (q_call en59 (.cons rfl .nil) rfl (rpowers_p _)) ?_
      refine rg_q (q_move (x := .d (.tup _)) rfl) (rg_q (q_extract rfl rfl) (rg_q (q_extract rfl rfl) (rg_q (q_assign (x := .d (.sl _ _)) rfl) (rg_q (q_a rfl) ?_))))
      refine rs (awp_region 9 mixed (by kernel_rfl) ?_)
      refine rg_q (q_m rfl) (rg_q (q_m rfl) (rg_q (q_neq rfl rfl) (rg_q (q_m rfl) ?_)))
      refine rg_g rfl rfl (fun hG => (q_move (x := .d (.sl _ _)) rfl)) ?_
      refine rg_g rfl rfl (fun hG => (q_move (x := .d (.sl _ _)) rfl)) ?_
      refine rg_g rfl rfl (fun hG => (q_call en49 (.cons rfl (.cons rfl .nil)) rfl (ints5_p _ _))) ?_
      refine rg_g rfl rfl (fun hG => (q_not rfl)) ?_
      refine rg_pick rfl rfl rfl rfl rfl rfl ?_
      refine rn ?_
      change Awp _ _ _ _ _
      refine awp_cond rfl (fun hc14 => ?_) (fun hc14 => ?_)
      ·
       simp at hc14
      ·
       (try simp only [nb, ne_eq] at hc14)
       refine awp_skip ?_
       change Awp _ _ _ _ _
       refine awp_region 3 mixed (by kernel_rfl) ?_
       refine rg_q (q_m rfl) ?_
       refine rg_q (q_add rfl rfl (In64.mk (by omega) (by omega))) ?_
       refine rg_q (q_a rfl) ?_
       refine rn ?_
       refine ⟨i + 1, by omega, by omega, ?_⟩
       exact le_head (ms := [3]) (by repeat (first | exact Out.head rfl rfl | (refine Out.put ?_ rfl) | (refine Out.site ?_ rfl) | (refine Out.killS ?_ rfl))) ⟨(by rfl), (by rfl), trivial⟩ ⟨(by ((show Site.row _ _ _ = Site.row _ _ _; (rw [hsk]; rfl)))), trivial⟩ rfl rfl rfl rfl
    ·
     (try simp only [nb, ne_eq] at hc7)
     have hiL : i = l.length := by omega
     subst hiL
     rw [List.take_length]
     refine awp_exit ?_
     change Awp _ _ _ _ _
     refine awp_seq ?_
     refine Awp.le (le_freezeR (es := (l.map imP).map imC) 3 3 (by show Site.row _ _ _ = _; rfl) rfl rfl rfl hmine) ?_
     refine awp_region 7 mixed (by kernel_rfl) ?_
     refine rg_q (q_move (x := .d (.sl _ _)) rfl) ?_
     refine rg_q (q_call en60 (.cons rfl .nil) rfl (mergedI_p (l.map imP))) ?_
     refine rg_q (q_move (x := .d (.tup _)) rfl) (rg_q (q_extract rfl rfl) (rg_q (q_extract rfl rfl) (rg_q (q_assign (x := .d (.sl _ _)) rfl) (rg_q (q_a rfl) ?_))))
     refine rs (awp_region 7 mixed (by kernel_rfl) ?_)
     refine rg_q (q_move (x := .d (.sl _ _)) rfl) ?_
     refine rg_q (q_call en61 (.cons rfl .nil) rfl (rmerged_p (l.map imP))) ?_
     refine rg_q (q_move (x := .d (.tup _)) rfl) (rg_q (q_extract rfl rfl) (rg_q (q_extract rfl rfl) (rg_q (q_assign (x := .d (.sl _ _)) rfl) (rg_q (q_a rfl) ?_))))
     refine rs (awp_region 9 mixed (by kernel_rfl) ?_)
     refine rg_q (q_m rfl) (rg_q (q_m rfl) (rg_q (q_eql rfl rfl) (rg_q (q_m rfl) ?_)))
     refine rg_g rfl rfl (fun hG => (q_move (x := .d (.sl _ _)) rfl)) ?_
     refine rg_g rfl rfl (fun hG => (q_move (x := .d (.sl _ _)) rfl)) ?_
     refine rg_g rfl rfl (fun hG => (q_call en38 (.cons rfl (.cons rfl .nil)) rfl (sameNums_p _ _))) ?_
     refine rg_pick rfl rfl rfl rfl rfl rfl ?_
     refine rg_q (q_a rfl) ?_
     refine rn ?_
     change Awp _ _ _ _ _
     refine awp_ret ?_
     refine ⟨_, (.cons (.tmp (by exact .d _)) .nil), ?_⟩
     simp [retD]
end Go.Proofs.YtphlaicnmmglhaaGreat.Am.M
