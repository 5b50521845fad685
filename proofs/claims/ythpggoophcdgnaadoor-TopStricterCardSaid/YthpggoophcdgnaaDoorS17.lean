/- Contracts over the abstract machine: TopStricter. Conditions: none. -/
import Derived.Test.YthpggoophcdgnaaDoorS16
set_option linter.unusedVariables false
set_option linter.unusedSimpArgs false
-- mini
namespace Go.Proofs.YthpggoophcdgnaaDoor.Am.M
open Go

def rj (bs : List Bx) : List Rw := bs.map fun b => ⟨b, 1⟩
theorem rj_at {bs : List Bx} {k : Nat} {y : Bx} (h : bs[k]? = some y) : ((rj (bs.take (k + 1))).map rwC) = ((rj (bs.take k)).map rwC) ++ [rwC ⟨y, 1⟩] := by
  unfold rj
  rw [List.take_add_one, h]; simp
theorem rj_len (bs : List Bx) : (rj bs).length = bs.length := List.length_map _
theorem rj_law {bs : List Bx} (h : ∀ b ∈ bs, ckBx b = 0) : ∀ r ∈ rj bs, ckRw r = 0 := fun r hr => by
  obtain ⟨b, hb, rfl⟩ := List.mem_map.1 hr
  show (if ckBx b ≠ 0 then ckBx b else _) = 0
  rw [if_neg (fun q => q (h b hb))]; rfl
theorem ckRs_of : ∀ {l : List Rw}, (∀ r ∈ l, ckRw r = 0) → ckRs l = 0
  | [], _ => rfl
  | x :: l, h => by
    rw [ckRs, if_neg (fun q => q (h x (by simp)))]
    exact ckRs_of fun r hr => h r (by simp [hr])
def amC (c : Cd) (bs : List Bx) : Cd := ⟨c.nm, rj bs ++ c.ex, c.ro⟩
theorem am_all (c : Cd) (bs : List Bx) : (amC c bs).all = rj bs ++ c.all := List.append_assoc _ _ _
theorem am_str (c : Cd) (bs : List Bx) : Str (amC c bs).all c.all := fun m h => by
  rw [am_all] at h
  exact accM_rej (fun y hy => by obtain ⟨b, _, rfl⟩ := List.mem_map.1 hy; rfl) h
theorem am_ok {c : Cd} {bs : List Bx} (h : (ckCd c).2 = 0) (hn : c.nm.size ≤ 1000) (h2 : bs.length ≤ 2) (h5 : c.ex.length ≤ 2) (h6 : c.ro.length ≤ 3) (hb : ∀ b ∈ bs, ckBx b = 0) : CdOk (amC c bs) := by
  obtain ⟨a1, a2, a3, a4⟩ := ckCd_law h
  have hl : (amC c bs).ex.length = bs.length + c.ex.length := by show (rj bs ++ c.ex).length = _; rw [List.length_append, rj_len]
  have hr : (amC c bs).ro.length = c.ro.length := rfl
  refine cd_ok (ckCd_of a1 (by omega) (by omega) fun r hr => ?_) hn (by omega)
  rw [am_all] at hr
  rcases List.mem_append.1 hr with hr | hr
  · exact rj_law hb r hr
  · exact a4 r hr
def owK (w : Wi) : Nat → Bx
  | 0 => whB
  | k + 1 => (owK w k).set (3 + k) (0, w.m.at (3 + k))
theorem ow_law {w : Wi} (h : ckMk w.m = 0) : BxOk (owK w 3) ∧ ckBx (owK w 3) = 0 ∧ ∃ m, inB (owK w 3) m := by
  have h3 := mk_law h 3 (by decide)
  have h4 := mk_law h 4 (by decide)
  have h5 := mk_law h 5 (by decide)
  have e3 : gr 3 = 20000 := rfl
  have e4 : gr 4 = 100000 := rfl
  have e5 : gr 5 = 200 := rfl
  rw [e3] at h3; rw [e4] at h4; rw [e5] at h5
  refine ⟨⟨fun q hq => ?_⟩, six_ok fun q hq => ?_, ⟨zMk, fun q hq => ?_⟩⟩
  · rcases lt6 hq with rfl | rfl | rfl | rfl | rfl | rfl
    · exact ⟨(by show (0 : Int) ≤ 0; decide), (by show (9 : Int) ≤ 100000; decide)⟩
    · exact ⟨(by show (0 : Int) ≤ 0; decide), (by show (20000 : Int) ≤ 100000; decide)⟩
    · exact ⟨(by show (0 : Int) ≤ 0; decide), (by show (20000 : Int) ≤ 100000; decide)⟩
    · exact ⟨Int.le_refl _, by show w.m.at 3 ≤ _; omega⟩
    · exact ⟨Int.le_refl _, by show w.m.at 4 ≤ _; omega⟩
    · exact ⟨Int.le_refl _, by show w.m.at 5 ≤ _; omega⟩
  · rcases lt6 hq with rfl | rfl | rfl | rfl | rfl | rfl
    · rfl
    · rfl
    · rfl
    · show (if (inR 0 0 20000 && inR 0 (w.m.at 3) 20000) = true then (if (0 : Int) > w.m.at 3 then 9 else 0) else 2) = (0 : Int)
      rw [if_pos (by simp [inR]; omega), if_neg (by omega)]
    · show (if (inR 0 0 100000 && inR 0 (w.m.at 4) 100000) = true then (if (0 : Int) > w.m.at 4 then 9 else 0) else 2) = (0 : Int)
      rw [if_pos (by simp [inR]; omega), if_neg (by omega)]
    · show (if (inR 0 0 200 && inR 0 (w.m.at 5) 200) = true then (if (0 : Int) > w.m.at 5 then 9 else 0) else 2) = (0 : Int)
      rw [if_pos (by simp [inR]; omega), if_neg (by omega)]
  · rcases lt6 hq with rfl | rfl | rfl | rfl | rfl | rfl
    · exact ⟨(by show (0 : Int) ≤ 0; decide), (by show (0 : Int) ≤ 9; decide)⟩
    · exact ⟨(by show (0 : Int) ≤ 0; decide), (by show (0 : Int) ≤ 20000; decide)⟩
    · exact ⟨(by show (0 : Int) ≤ 0; decide), (by show (0 : Int) ≤ 20000; decide)⟩
    · exact ⟨Int.le_refl _, h3.1⟩
    · exact ⟨Int.le_refl _, h4.1⟩
    · exact ⟨Int.le_refl _, h5.1⟩
theorem take_mem {bs : List Bx} {k : Nat} {y z : Bx} (hz : z ∈ bs.take (k + 1)) (hx : bs[k]? = some y) : z ∈ bs.take k ∨ z = y := by
  rw [List.take_add_one, hx] at hz
  rcases List.mem_append.1 hz with hz | hz
  · exact .inl hz
  · exact .inr (by simpa using hz)
theorem wi_law {w : Wi} (h : ckMk w.m = 0) (hw : ∀ i, i < 3 → inR 0 (w.at i) 100 = true) : WiOk w :=
  ⟨fun q hq => by have := mk_law h q hq; have := gr_le q; omega, fun i hi => in_law (hw i hi)⟩
theorem wi_wt (w : Wi) {k : Nat} (h : k < 3) : (wiC w)[0 + 6 + (k : Int).toNat * 1]? = some (iv (w.at k)) := by
  rcases lt3 h with rfl | rfl | rfl <;> rfl
theorem wi_mk (w : Wi) {k : Nat} (h : k < 3) : (wiC w)[0 + 0 + ((3 + k : Nat) : Int).toNat * 1]? = some (iv (w.m.at (3 + k))) := by
  rcases lt3 h with rfl | rfl | rfl <;> rfl
theorem short_law {c : Cd} (h : shortB c = true) : c.ex.length ≤ 12 ∧ c.ro.length ≤ 12 ∧ c.nm.size ≤ 20 ∧ (c.ex.length ≤ 10 → c.ex.length ≤ 2) ∧ (c.ro.length ≤ 10 → c.ro.length ≤ 3) := by
  unfold shortB fewB at h
  simp only [Bool.and_eq_true, Bool.or_eq_true, decide_eq_true_eq] at h
  omega
set_option maxRecDepth 100000 in
theorem topStricter_p (c : Cd) (bs : List Bx) (w : Wi) : PCG Tryd.prog GB 3 [.agg (cdC c), .sl 12 (bs.map bxC), .agg (wiC w)] (.v (.bool (true))) := by
  refine pcg_of_awpO gb_low Tryd.func3 rfl Tryd.ntmps3 (rs := [.tmp 6]) Tryd.results3 (by simp) fun w0 hmine hrnd hpn hGB hNG => ?_
  have hG : ∀ w, ExtM w0 w → GW w := fun w h => (hGB w h).1
  refine awp_seq ?_
  refine awp_region 3 mixed (by kernel_rfl) ?_
  refine rg_q (q_box rfl (by exact .inr ⟨_, rfl⟩)) ?_
  refine rg_q (q_box rfl (by exact .inr ⟨_, rfl⟩)) ?_
  refine rg_q (q_assign (x := .d (.v _)) rfl) ?_
  refine rg_nil ?_
  refine aops_nil ?_
  change Awp _ _ _ _ _
  refine awp_seq ?_
  refine awp_seq ?_
  refine awp_region 2 mixed (by kernel_rfl) ?_
  refine rg_q (q_callG en4 .nil rfl hGB (coded_p)) ?_
  refine rg_q (q_not rfl) ?_
  refine rg_nil ?_
  refine aops_nil ?_
  change Awp _ _ _ _ _
  refine awp_cond rfl (fun hc1 => ?_) (fun hc1 => ?_)
  ·
    cases hc1
  ·
    (try simp only [nb, ne_eq] at hc1)
    refine awp_skip ?_
    change Awp _ _ _ _ _
    refine awp_seq ?_
    refine awp_seq ?_
    refine awp_region 14 mixed (by kernel_rfl) ?_
    refine rg_q (q_loadA (ds := [_, _, _]) sz24 rfl rfl rfl) ?_
    refine rg_q (q_call en5 (.cons rfl .nil) rfl (short_p _)) ?_
    refine rg_q (q_not rfl) ?_
    refine rg_q (q_move (x := .d (.v _)) rfl) ?_
    refine rg_g rfl rfl (fun hG => (q_move (x := .d (.sl _ _)) rfl)) ?_
    refine rg_g rfl rfl (fun hG => (q_len isl25 rfl (by exact len_map _ _))) ?_
    refine rg_g rfl rfl (fun hG => (q_gtr rfl rfl)) ?_
    refine rg_pick rfl rfl rfl rfl rfl rfl ?_
    refine rg_q (q_move (x := .d (.v _)) rfl) ?_
    refine rg_g rfl rfl (fun hG => (q_fieldAddr fld30_0 rfl)) ?_
    refine rg_g rfl rfl (fun hG => (q_loadA (ds := [_, _, _, _, _, _]) sz27 rfl rfl rfl)) ?_
    refine rg_g rfl rfl (fun hG => (q_call en6 (.cons rfl .nil) rfl (rcheckMark_p _))) ?_
    refine rg_g rfl rfl (fun hG => (q_neq rfl rfl)) ?_
    refine rg_pick rfl rfl rfl rfl rfl rfl ?_
    refine rg_nil ?_
    refine aops_nil ?_
    change Awp _ _ _ _ _
    refine awp_cond rfl (fun hc3 => ?_) (fun hc3 => ?_)
    ·
      (try simp only [nb, ne_eq] at hc3)
      refine awp_seq ?_
      refine awp_region 1 mixed (by kernel_rfl) ?_
      refine rg_q (q_assign (x := .d (.v _)) rfl) ?_
      refine rg_nil ?_
      refine aops_nil ?_
      change Awp _ _ _ _ _
      refine awp_ret ?_
      refine ⟨_, (.cons (.tmp (by exact .d _)) .nil), ?_⟩
      rfl
    ·
      have hsh : shortB c = true ∧ bs.length ≤ 2 ∧ ckMk w.m = 0 := by
        cases e : shortB c with
        | false => rw [e] at hc3; exact absurd hc3 (by simp)
        | true => rw [e] at hc3; simp at hc3; exact ⟨rfl, by omega, hc3.2⟩
      obtain ⟨hsh, hb2, hm0⟩ := hsh
      obtain ⟨s1, s2, s3, s4, s5⟩ := short_law hsh
      refine awp_skip ?_
      change Awp _ _ _ _ _
      refine awp_seq ?_
      refine awp_seq ?_
      refine awp_region 1 mixed (by kernel_rfl) ?_
      refine rg_q (q_assign (x := .d (.v _)) rfl) ?_
      refine rg_nil ?_
      refine aops_nil ?_
      change Awp _ _ _ _ _
      refine awp_block ?_
      refine awp_loopH [6, 7, 50, 51, 52, 53, 54, 55, 56, 57, 58, 59] [] (α := Nat) (fun k => [(7, T.i (k : Int))]) (fun k => []) (fun k => k ≤ 3 ∧ ∀ i, i < k → inR 0 (w.at i) 100 = true) (fun k => 3 - k) 0 ⟨Nat.zero_le _, fun i h => by omega⟩ ?_ ?_
      · exact le_head (ms := []) (by repeat (exact Out.refl _)) ⟨(by rfl), trivial⟩ trivial rfl rfl rfl rfl
      ·
        intro k ⟨hk, hwt⟩
        refine awp_seq ?_
        refine awp_seq ?_
        refine awp_region 2 mixed (by kernel_rfl) ?_
        refine rg_q (q_move (x := .d (.v _)) rfl) ?_
        refine rg_q (q_lss rfl rfl) ?_
        refine rg_nil ?_
        refine aops_nil ?_
        change Awp _ _ _ _ _
        refine awp_cond rfl (fun hc6 => ?_) (fun hc6 => ?_)
        ·
          (try simp only [nb, ne_eq] at hc6)
          have hlt : k < 3 := by omega
          refine awp_skip ?_
          change Awp _ _ _ _ _
          refine awp_seq ?_
          refine awp_block ?_
          refine awp_seq ?_
          refine awp_region 6 mixed (by kernel_rfl) ?_
          refine rg_q (q_move (x := .d (.v _)) rfl) ?_
          refine rg_q (q_fieldAddr fld30_1 rfl) ?_
          refine rg_q (q_indexAddr_ar ar28 rfl rfl (by omega) (by omega)) ?_
          refine rg_q (q_load sz3 rfl (wi_wt w hlt)) ?_
          refine rg_q (q_call en7 (.cons rfl (.cons rfl (.cons rfl .nil))) rfl (bwithin_p _ _ _)) ?_
          refine rg_q (q_not rfl) ?_
          refine rg_nil ?_
          refine aops_nil ?_
          change Awp _ _ _ _ _
          refine awp_cond rfl (fun hc8 => ?_) (fun hc8 => ?_)
          ·
            (try simp only [nb, ne_eq] at hc8)
            refine awp_seq ?_
            refine awp_region 1 mixed (by kernel_rfl) ?_
            refine rg_q (q_assign (x := .d (.v _)) rfl) ?_
            refine rg_nil ?_
            refine aops_nil ?_
            change Awp _ _ _ _ _
            refine awp_ret ?_
            refine ⟨_, (.cons (.tmp (by exact .d _)) .nil), ?_⟩
            rfl
          ·
            (try simp only [nb, ne_eq] at hc8)
            refine awp_skip ?_
            change Awp _ _ _ _ _
            refine awp_region 3 mixed (by kernel_rfl) ?_
            refine rg_q (q_move (x := .d (.v _)) rfl) ?_
            refine rg_q (q_add rfl rfl (In64.mk (by omega) (by omega))) ?_
            refine rg_q (q_assign (x := .d (.v _)) rfl) ?_
            refine rg_nil ?_
            refine aops_nil ?_
            refine ⟨k + 1, ⟨by omega, fun i hi => (Nat.lt_or_eq_of_le (Nat.le_of_lt_succ hi)).elim (hwt i) (fun e => by subst e; assumption)⟩, by omega, ?_⟩
            exact le_head (ms := []) (by repeat (first | exact Out.head rfl rfl | (refine Out.put ?_ rfl))) ⟨(by rfl), trivial⟩ trivial rfl rfl rfl rfl
        ·
          (try simp only [nb, ne_eq] at hc6)
          have hk3 : k = 3 := by omega
          subst hk3
          have hwo := wi_law hm0 hwt
          refine awp_exit ?_
          change Awp _ _ _ _ _
          refine awp_seq ?_
          refine awp_seq ?_
          refine awp_region 7 mixed (by kernel_rfl) ?_
          refine rg_q (q_loadA (ds := [_, _, _]) sz24 rfl rfl rfl) ?_
          refine rg_q (q_call en8 (.cons rfl .nil) rfl (rcheckCode_p _ (by omega) (by omega) (by omega))) ?_
          refine rg_q (q_move (x := .d (.tup _)) rfl) ?_
          refine rg_q (q_extract rfl rfl) ?_
          refine rg_q (q_extract rfl rfl) ?_
          refine rg_q (q_assign (x := .d (.v _)) rfl) ?_
          refine rg_q (q_assign (x := .d (.v _)) rfl) ?_
          refine rg_nil ?_
          refine aops_nil ?_
          change Awp _ _ _ _ _
          refine awp_seq ?_
          refine awp_region 2 mixed (by kernel_rfl) ?_
          refine rg_q (q_move (x := .d (.v _)) rfl) ?_
          refine rg_q (q_neq rfl rfl) ?_
          refine rg_nil ?_
          refine aops_nil ?_
          change Awp _ _ _ _ _
          refine awp_cond rfl (fun hc11 => ?_) (fun hc11 => ?_)
          ·
            (try simp only [nb, ne_eq] at hc11)
            refine awp_seq ?_
            refine awp_region 1 mixed (by kernel_rfl) ?_
            refine rg_q (q_assign (x := .d (.v _)) rfl) ?_
            refine rg_nil ?_
            refine aops_nil ?_
            change Awp _ _ _ _ _
            refine awp_ret ?_
            refine ⟨_, (.cons (.tmp (by exact .d _)) .nil), ?_⟩
            rfl
          ·
            (try simp only [nb, ne_eq] at hc11)
            have hcd : (ckCd c).2 = 0 := by simpa using hc11
            obtain ⟨n1, n2, n3, n4⟩ := ckCd_law hcd
            have hco := cd_ok hcd (by omega) (by omega)
            refine awp_skip ?_
            change Awp _ _ _ _ _
            refine awp_seq ?_
            refine awp_region 1 mixed (by kernel_rfl) ?_
            refine rg_q (q_assign_nil) ?_
            refine rg_nil ?_
            refine aops_nil ?_
            change Awp _ _ _ _ _
            refine Awp.le (le_own (k := 10) (e := 43) (sz := 13) rfl rfl) ?_
            refine awp_seq ?_
            refine awp_seq ?_
            refine awp_region 1 mixed (by kernel_rfl) ?_
            refine rg_q (q_assign (x := .d (.v _)) rfl) ?_
            refine rg_nil ?_
            refine aops_nil ?_
            change Awp _ _ _ _ _
            refine awp_block ?_
            refine awp_loopH [6, 10, 11, 67, 68, 69, 70, 71, 72, 73, 74, 75, 76, 77, 78, 79, 80, 81, 82, 83, 84, 85, 86] [10] (α := Nat) (fun k => [(11, T.i (k : Int)), (10, .rs 10)]) (fun k => [(10, .row 43 13 ((rj (bs.take k)).map rwC))]) (fun k => k ≤ bs.length ∧ ∀ y ∈ bs.take k, ckBx y = 0) (fun k => bs.length - k) 0 ⟨Nat.zero_le _, fun y h => by cases h⟩ ?_ ?_
            · exact le_head (ms := [10]) (by repeat (exact Out.refl _)) ⟨(by rfl), (by rfl), trivial⟩ ⟨(by rfl), trivial⟩ rfl rfl rfl rfl
            ·
              intro k ⟨hk, hbk⟩
              refine awp_seq ?_
              refine awp_seq ?_
              refine awp_region 4 mixed (by kernel_rfl) ?_
              refine rg_q (q_move (x := .d (.v _)) rfl) ?_
              refine rg_q (q_move (x := .d (.sl _ _)) rfl) ?_
              refine rg_q (q_len isl25 rfl (by exact len_map _ _)) ?_
              refine rg_q (q_lss rfl rfl) ?_
              refine rg_nil ?_
              refine aops_nil ?_
              change Awp _ _ _ _ _
              refine awp_len (t := 68) rfl (fun hl68 => ?_)
              (try simp only [List.length_map] at hl68)
              refine awp_cond rfl (fun hc15 => ?_) (fun hc15 => ?_)
              ·
                (try simp only [nb, ne_eq] at hc15)
                have hlt : k < bs.length := by (try simp only [List.length_map] at hc15); omega
                obtain ⟨y, hx⟩ : ∃ y, bs[k]? = some y := ⟨_, List.getElem?_eq_getElem hlt⟩
                have hsk := rj_at hx
                have hrl : (rj (bs.take k)).length ≤ 2 := by rw [rj_len, List.length_take]; omega
                refine awp_skip ?_
                change Awp _ _ _ _ _
                refine awp_seq ?_
                refine awp_block ?_
                refine awp_seq ?_
                refine awp_seq ?_
                refine awp_region 6 mixed (by kernel_rfl) ?_
                refine rg_q (q_move (x := .d (.sl _ _)) rfl) ?_
                refine rg_q (q_move (x := .d (.v _)) rfl) ?_
                refine rg_q (q_indexAddr sl25 rfl rfl (by omega) (map_at (by omega) hx)) ?_
                refine rg_q (q_loadA (ds := [_, _, _, _, _, _, _, _, _, _, _, _]) sz41 rfl rfl rfl) ?_
                refine rg_q (q_call en9 (.cons rfl .nil) rfl (rcheckBox_p _)) ?_
                refine rg_q (q_neq rfl rfl) ?_
                refine rg_nil ?_
                refine aops_nil ?_
                change Awp _ _ _ _ _
                refine awp_cond rfl (fun hc17 => ?_) (fun hc17 => ?_)
                ·
                  (try simp only [nb, ne_eq] at hc17)
                  refine awp_seq ?_
                  refine awp_region 1 mixed (by kernel_rfl) ?_
                  refine rg_q (q_assign (x := .d (.v _)) rfl) ?_
                  refine rg_nil ?_
                  refine aops_nil ?_
                  change Awp _ _ _ _ _
                  refine awp_ret ?_
                  refine ⟨_, (.cons (.tmp (by exact .d _)) .nil), ?_⟩
                  rfl
                ·
                  (try simp only [nb, ne_eq] at hc17)
                  have hy0 : ckBx y = 0 := by simpa using hc17
                  refine awp_skip ?_
                  change Awp _ _ _ _ _
                  refine awp_region 7 mixed (by kernel_rfl) ?_
                  refine rg_q (q_move (x := .rs _) rfl) ?_
                  refine rg_q (q_move (x := .d (.sl _ _)) rfl) ?_
                  refine rg_q (q_move (x := .d (.v _)) rfl) ?_
                  refine rg_q (q_indexAddr sl25 rfl rfl (by omega) (map_at (by omega) hx)) ?_
                  refine rg_q (q_loadA (ds := [_, _, _, _, _, _, _, _, _, _, _, _]) sz41 rfl rfl rfl) ?_
                  refine rg_q (q_build pl43 zr43 rfl (.cons rfl (by exact .inr ⟨_, rfl⟩) (.cons rfl (by exact .inl rfl) .nil)) ⟨⟨rfl, by decide⟩, ⟨rfl, by decide⟩, trivial⟩ rfl) ?_
                  refine rg_q (q_buildSlice sl22 zr43 rfl rfl (by decide) (.cons rfl (by exact .inr ⟨_, rfl⟩) .nil) ⟨rfl, rfl, trivial⟩ rfl (by decide) rfl) ?_
                  refine rg_nil ?_
                  refine aops_append sl22 zr43 by43 rfl (by decide) rfl rfl rfl rfl (by (try simp only [List.length_map, List.length_append, List.length_cons, List.length_nil]); omega) (by (try simp only [List.length_map, List.length_append, List.length_cons, List.length_nil]); omega) rfl rfl ?_
                  refine aops_q rfl (q_assign (x := .rs _) rfl) ?_
                  refine aops_nil ?_
                  change Awp _ _ _ _ _
                  refine awp_region 3 mixed (by kernel_rfl) ?_
                  refine rg_q (q_move (x := .d (.v _)) rfl) ?_
                  refine rg_q (q_add rfl rfl (In64.mk (by omega) (by omega))) ?_
                  refine rg_q (q_assign (x := .d (.v _)) rfl) ?_
                  refine rg_nil ?_
                  refine aops_nil ?_
                  refine ⟨k + 1, ⟨by omega, fun z hz => (take_mem hz hx).elim (hbk z) (fun e => by rw [e]; exact hy0)⟩, by omega, ?_⟩
                  exact le_head (ms := [10]) (by repeat (first | exact Out.head rfl rfl | (refine Out.put ?_ rfl) | (refine Out.site ?_ rfl) | (refine Out.killS ?_ rfl))) ⟨(by rfl), (by rfl), trivial⟩ ⟨(by (show Site.row 43 13 (_ ++ [_]) = Site.row 43 13 _; rw [hsk]; rfl)), trivial⟩ rfl rfl rfl rfl
              ·
                (try simp only [nb, ne_eq] at hc15)
                have hkn : k = bs.length := by (try simp only [List.length_map] at hc15); omega
                subst hkn
                have hbx : ∀ b ∈ bs, ckBx b = 0 := by rw [List.take_length] at hbk; exact hbk
                have hxo := am_ok hcd (by omega) hb2 (by omega) (by omega) hbx
                have hx60 : (amC c bs).ex.length + (amC c bs).ro.length ≤ 60 := by have := hxo.n; unfold Cd.all at this; rw [List.length_append] at this; omega
                have how := ow_law hm0
                have hstr := am_str c bs
                refine awp_exit ?_
                change Awp _ _ _ _ _
                refine awp_seq ?_
                refine Awp.le (le_freezeR (es := (rj bs).map rwC) 10 10 (by show Site.row _ _ _ = _; rw [List.take_length]) rfl rfl rfl hmine) ?_
                refine awp_region 7 mixed (by kernel_rfl) ?_
                refine rg_q (q_loadA (ds := [_, _, _]) sz24 rfl rfl rfl) ?_
                refine rg_q (q_call en11 (.cons rfl .nil) rfl (copy_p _ (by omega) (by omega))) ?_
                refine rg_q (q_move (x := .d (.sl _ _)) rfl) ?_
                refine rg_q (q_callG en10 (.cons rfl (.cons rfl .nil)) rfl hG (amended_p c (by omega) (by omega) (by omega) (rj bs) (by rw [rj_len]; omega) hcd (ckRs_of (rj_law hbx)) (by rw [rj_len]; omega))) ?_
                refine rg_q (q_move (x := .d (.tup _)) rfl) ?_
                refine rg_q (q_extract rfl rfl) ?_
                refine rg_q (q_extract rfl rfl) ?_
                refine rg_nil ?_
                refine aops_allocD zr24 rfl sz24 rfl rfl (by exact .inr ⟨_, rfl⟩) rfl rfl ?_
                refine aops_q rfl (q_assign (x := .d (.v _)) rfl) ?_
                refine aops_nil ?_
                change Awp _ _ _ _ _
                refine awp_seq ?_
                refine awp_seq ?_
                refine awp_region 2 mixed (by kernel_rfl) ?_
                refine rg_q (q_move (x := .d (.v _)) rfl) ?_
                refine rg_q (q_neq rfl rfl) ?_
                refine rg_nil ?_
                refine aops_nil ?_
                change Awp _ _ _ _ _
                refine awp_cond rfl (fun hc21 => ?_) (fun hc21 => ?_)
                ·
                  cases hc21
                ·
                  (try simp only [nb, ne_eq] at hc21)
                  refine awp_skip ?_
                  change Awp _ _ _ _ _
                  refine awp_seq ?_
                  refine awp_region 12 mixed (by kernel_rfl) ?_
                  refine rg_q (q_loadA (ds := [_, _, _]) sz24 rfl rfl rfl) ?_
                  refine rg_q (q_call en11 (.cons rfl .nil) rfl (copy_p (amC c bs) hxo.ex hxo.ro)) ?_
                  refine rg_q (q_fieldAddr fld30_0 rfl) ?_
                  refine rg_q (q_loadA (ds := [_, _, _, _, _, _]) sz27 rfl rfl rfl) ?_
                  refine rg_q (q_callG en12 (.cons rfl (.cons rfl .nil)) rfl hG (decide_p (amC c bs) hxo.ex hxo.ro hxo.nm w.m hx60 hxo.e hm0)) ?_
                  refine rg_q (q_move (x := .d (.tup _)) rfl) ?_
                  refine rg_q (q_extract rfl rfl) ?_
                  refine rg_q (q_extract rfl rfl) ?_
                  refine rg_q (q_extract rfl rfl) ?_
                  refine rg_q (q_assign (x := .d (.v _)) rfl) ?_
                  refine rg_q (q_assign (x := .d (.v _)) rfl) ?_
                  refine rg_q (q_assign (x := .d (.v _)) rfl) ?_
                  refine rg_nil ?_
                  refine aops_nil ?_
                  change Awp _ _ _ _ _
                  refine awp_seq ?_
                  refine awp_region 12 mixed (by kernel_rfl) ?_
                  refine rg_q (q_loadA (ds := [_, _, _]) sz24 rfl rfl rfl) ?_
                  refine rg_q (q_call en11 (.cons rfl .nil) rfl (copy_p _ (by omega) (by omega))) ?_
                  refine rg_q (q_fieldAddr fld30_0 rfl) ?_
                  refine rg_q (q_loadA (ds := [_, _, _, _, _, _]) sz27 rfl rfl rfl) ?_
                  refine rg_q (q_callG en12 (.cons rfl (.cons rfl .nil)) rfl hG (decide_p c hco.ex hco.ro hco.nm w.m (by omega) hco.e hm0)) ?_
                  refine rg_q (q_move (x := .d (.tup _)) rfl) ?_
                  refine rg_q (q_extract rfl rfl) ?_
                  refine rg_q (q_extract rfl rfl) ?_
                  refine rg_q (q_extract rfl rfl) ?_
                  refine rg_q (q_assign (x := .d (.v _)) rfl) ?_
                  refine rg_q (q_assign (x := .d (.v _)) rfl) ?_
                  refine rg_q (q_assign (x := .d (.v _)) rfl) ?_
                  refine rg_nil ?_
                  refine aops_nil ?_
                  change Awp _ _ _ _ _
                  refine awp_seq ?_
                  refine awp_seq ?_
                  refine awp_region 14 mixed (by kernel_rfl) ?_
                  refine rg_q (q_move (x := .d (.v _)) rfl) ?_
                  refine rg_q (q_eql rfl rfl) ?_
                  refine rg_q (q_move (x := .d (.v _)) rfl) ?_
                  refine rg_g rfl rfl (fun hG => (q_move (x := .d (.v _)) rfl)) ?_
                  refine rg_g rfl rfl (fun hG => (q_eql rfl rfl)) ?_
                  refine rg_pick rfl rfl rfl rfl rfl rfl ?_
                  refine rg_q (q_move (x := .d (.v _)) rfl) ?_
                  refine rg_g rfl rfl (fun hG => (q_move (x := .d (.v _)) rfl)) ?_
                  refine rg_g rfl rfl (fun hG => (q_neq rfl rfl)) ?_
                  refine rg_g rfl rfl (fun hG => (q_move (x := .d (.v _)) rfl)) ?_
                  refine rg_g rfl rfl (fun hG => (q_move (x := .d (.v _)) rfl)) ?_
                  refine rg_g rfl rfl (fun hG => (q_neq rfl rfl)) ?_
                  refine rg_pickg rfl rfl rfl rfl rfl rfl rfl rfl ?_
                  refine rg_pick rfl rfl rfl rfl rfl rfl ?_
                  refine rg_nil ?_
                  refine aops_nil ?_
                  change Awp _ _ _ _ _
                  refine awp_cond rfl (fun hc25 => ?_) (fun hc25 => ?_)
                  ·
                    exfalso
                    have ha_ := dcd_acc (c := amC c bs) (m := w.m) (by have := hxo.n; omega)
                    have hb_ := dcd_acc (c := c) (m := w.m) (by have := hco.n; omega)
                    simp only [bif_and, bif_or, Bool.and_eq_true, Bool.or_eq_true, decide_eq_true_eq] at hc25
                    obtain ⟨q1, q2⟩ := hc25
                    have q3 := hb_.2 (hstr w.m (ha_.1 q1))
                    exact q2.elim (fun q => q q3.1) (fun q => q q3.2)
                  ·
                    (try simp only [nb, ne_eq] at hc25)
                    refine awp_skip ?_
                    change Awp _ _ _ _ _
                    refine awp_seq ?_
                    refine awp_region 1 mixed (by kernel_rfl) ?_
                    refine rg_q (q_call en13 .nil rfl (whole_p)) ?_
                    refine rg_nil ?_
                    refine aops_alloc zr41 rfl rfl rfl ?_
                    refine aops_store sz41 rfl rfl (by exact .inr ⟨_, rfl⟩) rfl rfl (by decide) rfl ?_
                    refine aops_nil ?_
                    change Awp _ _ _ _ _
                    refine awp_seq ?_
                    refine awp_seq ?_
                    refine awp_region 1 mixed (by kernel_rfl) ?_
                    refine rg_q (q_assign (x := .d (.v _)) rfl) ?_
                    refine rg_nil ?_
                    refine aops_nil ?_
                    change Awp _ _ _ _ _
                    refine awp_block ?_
                    refine awp_loopH [21, 129, 130, 131, 132, 133, 134, 135, 136, 137, 138, 139] [20] (α := Nat) (fun k => [(21, T.i ((3 + k : Nat) : Int))]) (fun k => [(20, .box (bxC (owK w k)))]) (fun k => k ≤ 3) (fun k => 3 - k) 0 (Nat.zero_le _) ?_ ?_
                    · exact le_head (ms := [20]) (by repeat (exact Out.refl _)) ⟨(by rfl), trivial⟩ ⟨(by rfl), trivial⟩ rfl rfl rfl rfl
                    ·
                      intro k hk
                      refine awp_seq ?_
                      refine awp_seq ?_
                      refine awp_region 2 mixed (by kernel_rfl) ?_
                      refine rg_q (q_move (x := .d (.v _)) rfl) ?_
                      refine rg_q (q_leq rfl rfl) ?_
                      refine rg_nil ?_
                      refine aops_nil ?_
                      change Awp _ _ _ _ _
                      refine awp_cond rfl (fun hc29 => ?_) (fun hc29 => ?_)
                      ·
                        (try simp only [nb, ne_eq] at hc29)
                        have hlt : k < 3 := by omega
                        have hlt6 : 3 + k < 6 := by omega
                        refine awp_skip ?_
                        change Awp _ _ _ _ _
                        refine awp_seq ?_
                        refine awp_block ?_
                        refine awp_region 7 mixed (by kernel_rfl) ?_
                        refine rg_q (q_move (x := .d (.v _)) rfl) ?_
                        refine rg_q (q_move (x := .d (.v _)) rfl) ?_
                        refine rg_q (q_fieldAddr fld30_0 rfl) ?_
                        refine rg_q (q_indexAddr_ar ar27 rfl rfl (by omega) (by omega)) ?_
                        refine rg_q (q_load sz3 rfl (wi_mk w hlt)) ?_
                        refine rg_q (q_build (cs := [_, _]) pl39 zr39 rfl (.cons rfl (by exact .inl rfl) (.cons rfl (by exact .inl rfl) .nil)) ⟨⟨rfl, by decide⟩, ⟨rfl, by decide⟩, trivial⟩ rfl) ?_
                        refine rg_q (q_indexAddr_aref ar41 rfl rfl (by omega) (by omega)) ?_
                        refine rg_nil ?_
                        refine aops_store (cs' := bxC ((owK w k).set (3 + k) (0, w.m.at (3 + k)))) sz39 rfl rfl (by exact .inr ⟨_, rfl⟩) rfl rfl (bx_room _ hlt6) (bx_set (owK w k) (0, w.m.at (3 + k)) hlt6) ?_
                        refine aops_nil ?_
                        change Awp _ _ _ _ _
                        refine awp_region 3 mixed (by kernel_rfl) ?_
                        refine rg_q (q_move (x := .d (.v _)) rfl) ?_
                        refine rg_q (q_add rfl rfl (In64.mk (by omega) (by omega))) ?_
                        refine rg_q (q_assign (x := .d (.v _)) rfl) ?_
                        refine rg_nil ?_
                        refine aops_nil ?_
                        refine ⟨k + 1, by omega, by omega, ?_⟩
                        exact le_head (ms := [20]) (by repeat (first | exact Out.head rfl rfl | (refine Out.put ?_ rfl) | (refine Out.site ?_ rfl))) ⟨(by rfl), trivial⟩ ⟨(by rfl), trivial⟩ rfl rfl rfl rfl
                      ·
                        (try simp only [nb, ne_eq] at hc29)
                        have hk3 : k = 3 := by omega
                        subst hk3
                        refine awp_exit ?_
                        change Awp _ _ _ _ _
                        refine awp_seq ?_
                        refine awp_regionM 12 [none, none, none, none, none, none, none, none, some 23, none, some 23, none] mixed (by kernel_rfl) ?_
                        refine rgm_q rfl (q_loadA (ds := [_, _, _]) sz24 rfl rfl rfl) ?_
                        refine rgm_q rfl (q_call en11 (.cons rfl .nil) rfl (copy_p (amC c bs) hxo.ex hxo.ro)) ?_
                        refine rgm_q rfl (q_load_refA (ds := [_, _, _, _, _, _, _, _, _, _, _, _]) sz41 rfl rfl rfl rfl) ?_
                        refine rgm_q rfl (q_callG en14 (.cons rfl (.cons rfl .nil)) rfl hGB (answer_p (amC c bs) hxo (owK w 3) how.1 how.2.1)) ?_
                        refine rgm_q rfl (q_move (x := .d (.tup _)) rfl) ?_
                        refine rgm_q rfl (q_extract rfl rfl) ?_
                        refine rgm_q rfl (q_extract rfl rfl) ?_
                        refine rgm_q rfl (q_extract rfl rfl) ?_
                        refine rgm_m (k := 23) rfl rfl (by rfl) (m_alloc zr51 rfl rfl) ?_
                        refine rgm_q rfl (q_assign (x := .d (.v _)) rfl) ?_
                        refine rgm_m (k := 23) rfl rfl (by rfl) (m_store sz51 rfl rfl (by exact .inr ⟨_, rfl⟩) rfl rfl (by decide) rfl) ?_
                        refine rgm_q rfl (q_assign (x := .d (.v _)) rfl) ?_
                        refine rgm_nil (aops_nil ?_)
                        change Awp _ _ _ _ _
                        refine awp_seq ?_
                        refine awp_regionM 12 [none, none, none, none, none, none, none, none, some 26, none, some 26, none] mixed (by kernel_rfl) ?_
                        refine rgm_q rfl (q_loadA (ds := [_, _, _]) sz24 rfl rfl rfl) ?_
                        refine rgm_q rfl (q_call en11 (.cons rfl .nil) rfl (copy_p _ (by omega) (by omega))) ?_
                        refine rgm_q rfl (q_load_refA (ds := [_, _, _, _, _, _, _, _, _, _, _, _]) sz41 rfl rfl rfl rfl) ?_
                        refine rgm_q rfl (q_callG en14 (.cons rfl (.cons rfl .nil)) rfl hGB (answer_p c hco (owK w 3) how.1 how.2.1)) ?_
                        refine rgm_q rfl (q_move (x := .d (.tup _)) rfl) ?_
                        refine rgm_q rfl (q_extract rfl rfl) ?_
                        refine rgm_q rfl (q_extract rfl rfl) ?_
                        refine rgm_q rfl (q_extract rfl rfl) ?_
                        refine rgm_m (k := 26) rfl rfl (by rfl) (m_alloc zr51 rfl rfl) ?_
                        refine rgm_q rfl (q_assign (x := .d (.v _)) rfl) ?_
                        refine rgm_m (k := 26) rfl rfl (by rfl) (m_store sz51 rfl rfl (by exact .inr ⟨_, rfl⟩) rfl rfl (by decide) rfl) ?_
                        refine rgm_q rfl (q_assign (x := .d (.v _)) rfl) ?_
                        refine rgm_nil (aops_nil ?_)
                        change Awp _ _ _ _ _
                        refine awp_seq ?_
                        refine awp_seq ?_
                        refine awp_region 22 mixed (by kernel_rfl) ?_
                        refine rg_q (q_move (x := .d (.v _)) rfl) ?_
                        refine rg_q (q_neq rfl rfl) ?_
                        refine rg_q (q_move (x := .d (.v _)) rfl) ?_
                        refine rg_g rfl rfl (fun hG => (q_move (x := .d (.v _)) rfl)) ?_
                        refine rg_g rfl rfl (fun hG => (q_neq rfl rfl)) ?_
                        refine rg_pick rfl rfl rfl rfl rfl rfl ?_
                        refine rg_q (q_move (x := .d (.v _)) rfl) ?_
                        refine rg_g rfl rfl (fun hG => (q_move (x := .d (.v _)) rfl)) ?_
                        refine rg_g rfl rfl (fun hG => (q_eql rfl rfl)) ?_
                        refine rg_g rfl rfl (fun hG => (q_move (x := .d (.v _)) rfl)) ?_
                        refine rg_g rfl rfl (fun hG => (q_move (x := .d (.v _)) rfl)) ?_
                        refine rg_g rfl rfl (fun hG => (q_neq rfl rfl)) ?_
                        refine rg_pickg rfl rfl rfl rfl rfl rfl rfl rfl ?_
                        refine rg_pick rfl rfl rfl rfl rfl rfl ?_
                        refine rg_q (q_move (x := .d (.v _)) rfl) ?_
                        refine rg_g rfl rfl (fun hG => (q_move (x := .d (.v _)) rfl)) ?_
                        refine rg_g rfl rfl (fun hG => (q_eql rfl rfl)) ?_
                        refine rg_g rfl rfl (fun hG => (q_move (x := .d (.v _)) rfl)) ?_
                        refine rg_g rfl rfl (fun hG => (q_move (x := .d (.v _)) rfl)) ?_
                        refine rg_g rfl rfl (fun hG => (q_neq rfl rfl)) ?_
                        refine rg_pickg rfl rfl rfl rfl rfl rfl rfl rfl ?_
                        refine rg_pick rfl rfl rfl rfl rfl rfl ?_
                        refine rg_nil ?_
                        refine aops_nil ?_
                        change Awp _ _ _ _ _
                        refine awp_cond rfl (fun hc34 => ?_) (fun hc34 => ?_)
                        ·
                          exfalso
                          have ha_ := ans_law hxo.ok hco.ok (by have := hxo.n; omega) (by have := hco.n; omega) hstr how.2.2
                          simp only [bif_and, bif_or, Bool.and_eq_true, Bool.or_eq_true, decide_eq_true_eq] at hc34
                          rcases hc34 with (q | q) | q
                          · exact q.elim (fun q => q rfl) (fun q => q rfl)
                          · exact q.2 (ha_.1 q.1)
                          · exact q.2 (ha_.2 q.1)
                        ·
                          (try simp only [nb, ne_eq] at hc34)
                          refine awp_skip ?_
                          change Awp _ _ _ _ _
                          refine awp_seq ?_
                          refine awp_regionM 12 [none, none, none, none, none, none, none, none, some 28, some 28, none, none] mixed (by kernel_rfl) ?_
                          refine rgm_q rfl (q_loadA (ds := [_, _, _]) sz24 rfl rfl rfl) ?_
                          refine rgm_q rfl (q_call en11 (.cons rfl .nil) rfl (copy_p (amC c bs) hxo.ex hxo.ro)) ?_
                          refine rgm_q rfl (q_loadA (ds := [_, _, _, _, _, _, _, _, _]) sz30 rfl rfl rfl) ?_
                          refine rgm_q rfl (q_callG en15 (.cons rfl (.cons rfl .nil)) rfl hGB (leastChange_p (amC c bs) hxo w hwo hm0)) ?_
                          refine rgm_q rfl (q_move (x := .d (.tup _)) rfl) ?_
                          refine rgm_q rfl (q_extract rfl rfl) ?_
                          refine rgm_q rfl (q_extract rfl rfl) ?_
                          refine rgm_q rfl (q_extract rfl rfl) ?_
                          refine rgm_m (k := 28) rfl rfl (by rfl) (m_alloc zr27 rfl rfl) ?_
                          refine rgm_m (k := 28) rfl rfl (by rfl) (m_store sz27 rfl rfl (by exact .inr ⟨_, rfl⟩) rfl rfl (by decide) rfl) ?_
                          refine rgm_q rfl (q_assign (x := .d (.v _)) rfl) ?_
                          refine rgm_q rfl (q_assign (x := .d (.v _)) rfl) ?_
                          refine rgm_nil (aops_nil ?_)
                          change Awp _ _ _ _ _
                          refine awp_seq ?_
                          refine awp_regionM 12 [none, none, none, none, none, none, none, none, some 31, some 31, none, none] mixed (by kernel_rfl) ?_
                          refine rgm_q rfl (q_loadA (ds := [_, _, _]) sz24 rfl rfl rfl) ?_
                          refine rgm_q rfl (q_call en11 (.cons rfl .nil) rfl (copy_p _ (by omega) (by omega))) ?_
                          refine rgm_q rfl (q_loadA (ds := [_, _, _, _, _, _, _, _, _]) sz30 rfl rfl rfl) ?_
                          refine rgm_q rfl (q_callG en15 (.cons rfl (.cons rfl .nil)) rfl hGB (leastChange_p c hco w hwo hm0)) ?_
                          refine rgm_q rfl (q_move (x := .d (.tup _)) rfl) ?_
                          refine rgm_q rfl (q_extract rfl rfl) ?_
                          refine rgm_q rfl (q_extract rfl rfl) ?_
                          refine rgm_q rfl (q_extract rfl rfl) ?_
                          refine rgm_m (k := 31) rfl rfl (by rfl) (m_alloc zr27 rfl rfl) ?_
                          refine rgm_m (k := 31) rfl rfl (by rfl) (m_store sz27 rfl rfl (by exact .inr ⟨_, rfl⟩) rfl rfl (by decide) rfl) ?_
                          refine rgm_q rfl (q_assign (x := .d (.v _)) rfl) ?_
                          refine rgm_q rfl (q_assign (x := .d (.v _)) rfl) ?_
                          refine rgm_nil (aops_nil ?_)
                          change Awp _ _ _ _ _
                          refine awp_seq ?_
                          refine awp_seq ?_
                          refine awp_region 2 mixed (by kernel_rfl) ?_
                          refine rg_q (q_move (x := .d (.v _)) rfl) ?_
                          refine rg_q (q_neq rfl rfl) ?_
                          refine rg_nil ?_
                          refine aops_nil ?_
                          change Awp _ _ _ _ _
                          refine awp_cond rfl (fun hc38 => ?_) (fun hc38 => ?_)
                          ·
                            (try simp only [nb, ne_eq] at hc38)
                            refine awp_seq ?_
                            refine awp_region 3 mixed (by kernel_rfl) ?_
                            refine rg_q (q_move (x := .d (.v _)) rfl) ?_
                            refine rg_q (q_eql rfl rfl) ?_
                            refine rg_q (q_assign (x := .d (.v _)) rfl) ?_
                            refine rg_nil ?_
                            refine aops_nil ?_
                            change Awp _ _ _ _ _
                            refine awp_ret ?_
                            refine ⟨_, (.cons (.tmp (by exact .d _)) .nil), ?_⟩
                            rw [(lc_err (amC c bs) w).resolve_left hc38]; rfl
                          ·
                            (try simp only [nb, ne_eq] at hc38)
                            refine awp_skip ?_
                            change Awp _ _ _ _ _
                            refine awp_seq ?_
                            refine awp_region 8 mixed (by kernel_rfl) ?_
                            refine rg_q (q_move (x := .d (.v _)) rfl) ?_
                            refine rg_q (q_eql rfl rfl) ?_
                            refine rg_q (q_move (x := .d (.v _)) rfl) ?_
                            refine rg_g rfl rfl (fun hG => (q_move (x := .d (.v _)) rfl)) ?_
                            refine rg_g rfl rfl (fun hG => (q_move (x := .d (.v _)) rfl)) ?_
                            refine rg_g rfl rfl (fun hG => (q_leq rfl rfl)) ?_
                            refine rg_pick rfl rfl rfl rfl rfl rfl ?_
                            refine rg_q (q_assign (x := .d (.v _)) rfl) ?_
                            refine rg_nil ?_
                            refine aops_nil ?_
                            change Awp _ _ _ _ _
                            refine awp_ret ?_
                            refine ⟨_, (.cons (.tmp (by exact .d _)) .nil), ?_⟩
                            obtain ⟨q1, q2⟩ := lc_law hxo.ok hco.ok (by have := hxo.n; omega) (by have := hco.n; omega) hstr hwo hc38
                            rw [decide_eq_true q1, decide_eq_true q2]; rfl
end Go.Proofs.YthpggoophcdgnaaDoor.Am.M
