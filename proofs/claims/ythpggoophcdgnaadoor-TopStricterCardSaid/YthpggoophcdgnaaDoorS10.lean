/- Contracts over the abstract machine: chapter 9: LeastChange. Conditions: none. -/
import Derived.Test.YthpggoophcdgnaaDoorS9
set_option linter.unusedVariables false
set_option linter.unusedSimpArgs false
-- mini
namespace Go.Proofs.YthpggoophcdgnaaDoor.Am.M
open Go

theorem try_ok {l : List Rw} {w : Wi} (hl : l.length ≤ 7) (hok : RwsOk l) (hw : WiOk w) : TryP l w 3 0 := fun m cost s c h =>
  tryS_p l w 2 0 rfl (fun m cost s c h => tryS_p l w 1 1 rfl (fun m cost s c h => tryS_p l w 0 2 rfl (fun m cost s c h => try0_p l w m cost s c hl h.s) m cost s c hl hok hw h) m cost s c hl hok hw h) m cost s c hl hok hw h
def has3 (b : Bx) (m : Mk) : Bool := (hasQ b m 0 && hasQ b m 1) && hasQ b m 2
def s3K (l : List Rw) (m : Mk) : Nat → Nat
  | 0 => 0
  | k + 1 => match l[k]? with | some r => (if has3 r.bx m = true then s3K l m k ||| 2 ^ k else s3K l m k) | none => s3K l m k
theorem s3K_lt (l : List Rw) (m : Mk) : ∀ k, s3K l m k < 2 ^ k
  | 0 => Nat.one_pos
  | k + 1 => by
    have ih := s3K_lt l m k
    have h2 : 2 ^ k < 2 ^ (k + 1) := Nat.pow_lt_pow_right (by decide) (Nat.lt_succ_self k)
    unfold s3K
    cases l[k]? with
    | none => exact Nat.lt_trans ih h2
    | some r =>
      show (if has3 r.bx m = true then _ else _) < _
      split
      · exact Nat.or_lt_two_pow (Nat.lt_trans ih h2) h2
      · exact Nat.lt_trans ih h2
def zMk : Mk := ⟨0, 0, 0, 0, 0, 0⟩
def lcX (c : Cd) (w : Wi) : Ch := tryF c.all w 3 0 w.m 0 (s3K c.all w.m c.all.length) ⟨zMk, 0, false⟩
def lc (c : Cd) (w : Wi) : Mk × Int × Int := if (lcX c w).fnd = true then ((lcX c w).best, (lcX c w).cost, 0) else (zMk, 0, 12)
theorem wt_at (w : Wi) {k : Nat} (h : k < 3) : [iv w.w0, iv w.w1, iv w.w2][(k : Int).toNat]? = some (iv (w.at k)) := by
  rcases lt3 h with rfl | rfl | rfl <;> rfl
structure CdOk (c : Cd) : Prop where
  ex : c.ex.length ≤ 1000
  ro : c.ro.length ≤ 1000
  nm : c.nm.size ≤ 1000
  n : c.all.length ≤ 7
  e : (ckCd c).2 = 0
  ok : RwsOk c.all
set_option maxRecDepth 100000 in
theorem leastChange_p (c : Cd) (hc : CdOk c) (w : Wi) (hw : WiOk w) (h2 : ckMk w.m = 0) : PCG Tryd.prog GB 15 [.agg (cdC c), .agg (wiC w)] (.tup [.agg (mkC (lc c w).1), .v (.int .i64 ((lc c w).2.1)), .v (.int .i64 ((lc c w).2.2))]) := by
  obtain ⟨hx, hr, hn, hl7, h1, hok⟩ := hc
  have hal : c.all.length = c.ex.length + c.ro.length := List.length_append
  have hs3 := s3K_lt c.all w.m c.all.length
  have hto : TryOk c.all 0 0 (s3K c.all w.m c.all.length) := ⟨⟨Int.le_refl _, Int.le_refl _⟩, hs3⟩
  refine pcg_of_awpO gb_low Tryd.func15 rfl Tryd.ntmps15 (rs := [.cell 4 27, .tmp 5, .tmp 6]) Tryd.results15 (by simp) fun w0 hmine hrnd hpn hGB hNG => ?_
  have hG : ∀ w, ExtM w0 w → GW w := fun w h => (hGB w h).1
  refine awp_seq ?_
  refine awp_region 2 mixed (by kernel_rfl) ?_
  refine rg_q (q_box rfl (by exact .inr ⟨_, rfl⟩)) ?_
  refine rg_q (q_box rfl (by exact .inr ⟨_, rfl⟩)) ?_
  refine rg_nil ?_
  refine aops_alloc zr27 rfl rfl rfl ?_
  refine aops_q rfl (q_assign (x := .d (.v _)) rfl) ?_
  refine aops_q rfl (q_assign (x := .d (.v _)) rfl) ?_
  refine aops_nil ?_
  change Awp _ _ _ _ _
  refine awp_seq ?_
  refine awp_region 7 mixed (by kernel_rfl) ?_
  refine rg_q (q_loadA (ds := [_, _, _]) sz24 rfl rfl rfl) ?_
  refine rg_q (q_callG en27 (.cons rfl .nil) rfl hG (open_p _ (by omega) (by omega) (by omega))) ?_
  refine rg_q (q_move (x := .d (.tup _)) rfl) ?_
  refine rg_q (q_extract rfl rfl) ?_
  refine rg_q (q_extract rfl rfl) ?_
  refine rg_q (q_assign (x := .d (.sl _ _)) rfl) ?_
  refine rg_q (q_assign (x := .d (.v _)) rfl) ?_
  refine rg_nil ?_
  refine aops_nil ?_
  change Awp _ _ _ _ _
  refine awp_seq ?_
  refine awp_seq ?_
  refine awp_region 2 mixed (by kernel_rfl) ?_
  refine rg_q (q_move (x := .d (.v _)) rfl) ?_
  refine rg_q (q_eql rfl rfl) ?_
  refine rg_nil ?_
  refine aops_nil ?_
  change Awp _ _ _ _ _
  refine awp_cond rfl (fun hc2 => ?_) (fun hc2 => ?_)
  ·
    (try simp only [nb, ne_eq] at hc2)
    refine awp_region 4 mixed (by kernel_rfl) ?_
    refine rg_q (q_fieldAddr fld30_0 rfl) ?_
    refine rg_q (q_loadA (ds := [_, _, _, _, _, _]) sz27 rfl rfl rfl) ?_
    refine rg_q (q_callG en28 (.cons rfl .nil) rfl hG (checkMark_p _)) ?_
    refine rg_q (q_assign (x := .d (.v _)) rfl) ?_
    refine rg_nil ?_
    refine aops_nil ?_
    change Awp _ _ _ _ _
    refine awp_seq ?_
    refine awp_seq ?_
    refine awp_region 2 mixed (by kernel_rfl) ?_
    refine rg_q (q_move (x := .d (.v _)) rfl) ?_
    refine rg_q (q_neq rfl rfl) ?_
    refine rg_nil ?_
    refine aops_nil ?_
    change Awp _ _ _ _ _
    refine awp_cond rfl (fun hc4 => ?_) (fun hc4 => ?_)
    ·
      exact absurd h2 (by simpa using hc4)
    ·
      (try simp only [nb, ne_eq] at hc4)
      refine awp_skip ?_
      change Awp _ _ _ _ _
      refine awp_seq ?_
      refine awp_seq ?_
      refine awp_region 3 mixed (by kernel_rfl) ?_
      refine rg_q (q_fieldAddr fld30_1 rfl) ?_
      refine rg_q (q_loadA (ds := [_, _, _]) sz28 rfl rfl rfl) ?_
      refine rg_q (q_move (x := .d (.v _)) rfl) ?_
      refine rg_nil ?_
      refine aops_nil ?_
      change Awp _ _ _ _ _
      refine awp_block ?_
      refine awp_loopH [5, 6, 10, 31, 32, 33, 34, 35, 36, 37, 38] [] (α := Nat) (fun k => [(31, T.i (k : Int))]) (fun k => []) (fun k => k ≤ 3) (fun k => 3 - k) 0 (Nat.zero_le _) ?_ ?_
      · exact le_head (ms := []) (by repeat (exact Out.refl _)) ⟨(by rfl), trivial⟩ trivial rfl rfl rfl rfl
      ·
        intro k hk
        refine awp_seq ?_
        refine awp_region 1 mixed (by kernel_rfl) ?_
        refine rg_q (q_lss rfl rfl) ?_
        refine rg_nil ?_
        refine aops_nil ?_
        change Awp _ _ _ _ _
        refine awp_seq ?_
        refine awp_cond rfl (fun hc7 => ?_) (fun hc7 => ?_)
        ·
          (try simp only [nb, ne_eq] at hc7)
          have hlt : k < 3 := by omega
          obtain ⟨hw1, hw2⟩ := hw.w k hlt
          have hin : inR 0 (w.at k) 100 = true := by simp [inR]; omega
          refine awp_skip ?_
          change Awp _ _ _ _ _
          refine awp_seq ?_
          refine awp_block ?_
          refine awp_seq ?_
          refine awp_region 2 mixed (by kernel_rfl) ?_
          refine rg_q (q_index_ar ar28 sz3 rfl rfl (by omega) (by omega) (wt_at w hlt)) ?_
          refine rg_q (q_assign (x := .d (.v _)) rfl) ?_
          refine rg_nil ?_
          refine aops_nil ?_
          change Awp _ _ _ _ _
          refine awp_seq ?_
          refine awp_region 3 mixed (by kernel_rfl) ?_
          refine rg_q (q_move (x := .d (.v _)) rfl) ?_
          refine rg_q (q_call en37 (.cons rfl (.cons rfl (.cons rfl .nil))) rfl (within_p _ _ _)) ?_
          refine rg_q (q_not rfl) ?_
          refine rg_nil ?_
          refine aops_nil ?_
          change Awp _ _ _ _ _
          refine awp_cond rfl (fun hc9 => ?_) (fun hc9 => ?_)
          ·
            rw [hin] at hc9; cases hc9
          ·
            (try simp only [nb, ne_eq] at hc9)
            refine awp_skip ?_
            change Awp _ _ _ _ _
            refine awp_region 2 mixed (by kernel_rfl) ?_
            refine rg_q (q_add rfl rfl (In64.mk (by omega) (by omega))) ?_
            refine rg_q (q_move (x := .d (.v _)) rfl) ?_
            refine rg_nil ?_
            refine aops_nil ?_
            refine ⟨k + 1, by omega, by omega, ?_⟩
            exact le_head (ms := []) (by repeat (first | exact Out.head rfl rfl | (refine Out.put ?_ rfl))) ⟨(by rfl), trivial⟩ trivial rfl rfl rfl rfl
        ·
          (try simp only [nb, ne_eq] at hc7)
          refine awp_exit ?_
          change Awp _ _ _ _ _
          refine awp_seq ?_
          refine awp_region 1 mixed (by kernel_rfl) ?_
          refine rg_q (q_assign (x := .d (.v _)) rfl) ?_
          refine rg_nil ?_
          refine aops_nil ?_
          change Awp _ _ _ _ _
          refine awp_seq ?_
          refine awp_seq ?_
          refine awp_region 3 mixed (by kernel_rfl) ?_
          refine rg_q (q_move (x := .d (.sl _ _)) rfl) ?_
          refine rg_q (q_len isl68 rfl (by exact len_map _ _)) ?_
          refine rg_q (q_move (x := .d (.v _)) rfl) ?_
          refine rg_nil ?_
          refine aops_nil ?_
          change Awp _ _ _ _ _
          refine awp_len (t := 39) rfl (fun hl39 => ?_)
          (try simp only [List.length_map] at hl39)
          refine awp_block ?_
          refine awp_loopH [11, 12, 13, 41, 42, 43, 44, 45, 46, 47, 48, 49, 50, 51, 52, 53, 54, 55, 56, 57, 58, 59, 60, 61, 62, 63, 64, 65, 66, 67, 68, 69, 70, 71, 72, 73, 74, 75, 76, 77, 78, 79, 80, 81, 82, 83, 84, 85, 86, 87, 88, 89, 90] [] (α := Nat) (fun k => [(41, T.i (k : Int)), (11, .d (.v (.int .u64 ((s3K c.all w.m k : Nat) : Int))))]) (fun k => []) (fun k => k ≤ c.all.length) (fun k => c.all.length - k) 0 (Nat.zero_le _) ?_ ?_
          · exact le_head (ms := []) (by repeat (exact Out.refl _)) ⟨(by rfl), (by rfl), trivial⟩ trivial rfl rfl rfl rfl
          ·
            intro k hk
            refine awp_seq ?_
            refine awp_region 1 mixed (by kernel_rfl) ?_
            refine rg_q (q_lss rfl rfl) ?_
            refine rg_nil ?_
            refine aops_nil ?_
            change Awp _ _ _ _ _
            refine awp_seq ?_
            refine awp_cond rfl (fun hc14 => ?_) (fun hc14 => ?_)
            ·
              (try simp only [nb, ne_eq] at hc14)
              have hlt : k < c.all.length := by (try simp only [List.length_map] at hc14); omega
              obtain ⟨r, hx_⟩ : ∃ r, c.all[k]? = some r := ⟨_, List.getElem?_eq_getElem hlt⟩
              have hu : s3K c.all w.m (k + 1) = if has3 r.bx w.m = true then s3K c.all w.m k ||| 2 ^ k else s3K c.all w.m k := by rw [s3K, hx_]
              have hb1 : s3K c.all w.m k < 2 ^ 64 := Nat.lt_of_lt_of_le (s3K_lt c.all w.m k) (Nat.pow_le_pow_right (by decide) (by omega))
              have hb2 : 2 ^ k < 2 ^ 64 := Nat.pow_lt_pow_right (by decide) (by omega)
              refine awp_skip ?_
              change Awp _ _ _ _ _
              refine awp_seq ?_
              refine awp_block ?_
              refine awp_seq ?_
              refine awp_region 3 mixed (by kernel_rfl) ?_
              refine rg_q (q_move (x := .d (.v _)) rfl) ?_
              refine rg_q (q_indexAddr sl68 rfl rfl (by omega) (map_at (by omega) hx_)) ?_
              refine rg_q (q_loadA sz43 rfl rfl rfl) ?_
              refine rg_nil ?_
              refine aops_alloc zr43 rfl rfl rfl ?_
              refine aops_q rfl (q_assign (x := .d (.v _)) rfl) ?_
              refine aops_store sz43 rfl rfl (by exact .inr ⟨_, rfl⟩) rfl rfl (by decide) rfl ?_
              refine aops_nil ?_
              change Awp _ _ _ _ _
              refine awp_seq ?_
              refine Awp.le (le_freeze 13 13 0 (cs := rwC r) rfl rfl rfl rfl hmine) ?_
              refine awp_region 40 mixed (by kernel_rfl) ?_
              refine rg_q (q_fieldAddr fld30_0 rfl) ?_
              refine rg_q (q_indexAddr_ar ar27 rfl rfl (by omega) (by omega)) ?_
              refine rg_q (q_load sz3 rfl rfl) ?_
              refine rg_q (q_fieldAddr fld43_0 rfl) ?_
              refine rg_q (q_indexAddr_ar ar41 rfl rfl (by omega) (by omega)) ?_
              refine rg_q (q_fieldAddr fld39_0 rfl) ?_
              refine rg_q (q_load sz3 rfl rfl) ?_
              refine rg_q (q_fieldAddr fld43_0 rfl) ?_
              refine rg_q (q_indexAddr_ar ar41 rfl rfl (by omega) (by omega)) ?_
              refine rg_q (q_fieldAddr fld39_1 rfl) ?_
              refine rg_q (q_load sz3 rfl rfl) ?_
              refine rg_q (q_call en37 (.cons rfl (.cons rfl (.cons rfl .nil))) rfl (within_p _ _ _)) ?_
              refine rg_q (q_move (x := .d (.v _)) rfl) ?_
              refine rg_g rfl rfl (fun hG => (q_fieldAddr fld30_0 rfl)) ?_
              refine rg_g rfl rfl (fun hG => (q_indexAddr_ar ar27 rfl rfl (by (have hg0 := T.bool_inj (a := _) hG.1; (try simp only [nb, ne_eq] at hg0); omega)) (by (have hg0 := T.bool_inj (a := _) hG.1; (try simp only [nb, ne_eq] at hg0); omega)))) ?_
              refine rg_g rfl rfl (fun hG => (q_load sz3 rfl rfl)) ?_
              refine rg_g rfl rfl (fun hG => (q_fieldAddr fld43_0 rfl)) ?_
              refine rg_g rfl rfl (fun hG => (q_indexAddr_ar ar41 rfl rfl (by (have hg0 := T.bool_inj (a := _) hG.1; (try simp only [nb, ne_eq] at hg0); omega)) (by (have hg0 := T.bool_inj (a := _) hG.1; (try simp only [nb, ne_eq] at hg0); omega)))) ?_
              refine rg_g rfl rfl (fun hG => (q_fieldAddr fld39_0 rfl)) ?_
              refine rg_g rfl rfl (fun hG => (q_load sz3 rfl rfl)) ?_
              refine rg_g rfl rfl (fun hG => (q_fieldAddr fld43_0 rfl)) ?_
              refine rg_g rfl rfl (fun hG => (q_indexAddr_ar ar41 rfl rfl (by (have hg0 := T.bool_inj (a := _) hG.1; (try simp only [nb, ne_eq] at hg0); omega)) (by (have hg0 := T.bool_inj (a := _) hG.1; (try simp only [nb, ne_eq] at hg0); omega)))) ?_
              refine rg_g rfl rfl (fun hG => (q_fieldAddr fld39_1 rfl)) ?_
              refine rg_g rfl rfl (fun hG => (q_load sz3 rfl rfl)) ?_
              refine rg_g rfl rfl (fun hG => (q_call en37 (.cons rfl (.cons rfl (.cons rfl .nil))) rfl (within_p _ _ _))) ?_
              refine rg_pick rfl rfl rfl rfl rfl rfl ?_
              refine rg_q (q_move (x := .d (.v _)) rfl) ?_
              refine rg_g rfl rfl (fun hG => (q_fieldAddr fld30_0 rfl)) ?_
              refine rg_g rfl rfl (fun hG => (q_indexAddr_ar ar27 rfl rfl (by (have hg0 := T.bool_inj (a := _) hG.1; (try simp only [nb, ne_eq] at hg0); omega)) (by (have hg0 := T.bool_inj (a := _) hG.1; (try simp only [nb, ne_eq] at hg0); omega)))) ?_
              refine rg_g rfl rfl (fun hG => (q_load sz3 rfl rfl)) ?_
              refine rg_g rfl rfl (fun hG => (q_fieldAddr fld43_0 rfl)) ?_
              refine rg_g rfl rfl (fun hG => (q_indexAddr_ar ar41 rfl rfl (by (have hg0 := T.bool_inj (a := _) hG.1; (try simp only [nb, ne_eq] at hg0); omega)) (by (have hg0 := T.bool_inj (a := _) hG.1; (try simp only [nb, ne_eq] at hg0); omega)))) ?_
              refine rg_g rfl rfl (fun hG => (q_fieldAddr fld39_0 rfl)) ?_
              refine rg_g rfl rfl (fun hG => (q_load sz3 rfl rfl)) ?_
              refine rg_g rfl rfl (fun hG => (q_fieldAddr fld43_0 rfl)) ?_
              refine rg_g rfl rfl (fun hG => (q_indexAddr_ar ar41 rfl rfl (by (have hg0 := T.bool_inj (a := _) hG.1; (try simp only [nb, ne_eq] at hg0); omega)) (by (have hg0 := T.bool_inj (a := _) hG.1; (try simp only [nb, ne_eq] at hg0); omega)))) ?_
              refine rg_g rfl rfl (fun hG => (q_fieldAddr fld39_1 rfl)) ?_
              refine rg_g rfl rfl (fun hG => (q_load sz3 rfl rfl)) ?_
              refine rg_g rfl rfl (fun hG => (q_call en37 (.cons rfl (.cons rfl (.cons rfl .nil))) rfl (within_p _ _ _))) ?_
              refine rg_pick rfl rfl rfl rfl rfl rfl ?_
              refine rg_nil ?_
              refine aops_nil ?_
              change Awp _ _ _ _ _
              refine awp_cond rfl (fun hc16 => ?_) (fun hc16 => ?_)
              ·
                have hh : has3 r.bx w.m = true := by have e := hc16; simp only [bif_and] at e; exact e
                rw [if_pos hh] at hu
                refine awp_region 5 mixed (by kernel_rfl) ?_
                refine rg_q (q_move (x := .d (.v _)) rfl) ?_
                refine rg_q (q_move (x := .d (.v _)) rfl) ?_
                refine rg_q (q_shlN rfl rfl (by omega)) ?_
                refine rg_q (q_orN rfl rfl hb1 hb2) ?_
                refine rg_q (q_assign (x := .d (.v _)) rfl) ?_
                refine rg_nil ?_
                refine aops_nil ?_
                change Awp _ _ _ _ _
                refine awp_region 2 mixed (by kernel_rfl) ?_
                refine rg_q (q_add rfl rfl (In64.mk (by omega) (by omega))) ?_
                refine rg_q (q_move (x := .d (.v _)) rfl) ?_
                refine rg_nil ?_
                refine aops_nil ?_
                refine ⟨k + 1, by omega, by omega, ?_⟩
                exact le_head (ms := []) (by repeat (first | exact Out.head rfl rfl | (refine Out.put ?_ rfl) | (refine Out.site ?_ rfl) | (refine Out.headIn ?_ rfl rfl rfl))) ⟨(by rfl), (by ((show T.d (.v (.int .u64 _)) = T.d (.v (.int .u64 _)); rw [hu]))), trivial⟩ trivial rfl rfl rfl rfl
              ·
                have hh : ¬ has3 r.bx w.m = true := by rw [show has3 r.bx w.m = false by have e := hc16; simp only [bif_and] at e; exact e]; decide
                rw [if_neg hh] at hu
                refine awp_skip ?_
                change Awp _ _ _ _ _
                refine awp_region 2 mixed (by kernel_rfl) ?_
                refine rg_q (q_add rfl rfl (In64.mk (by omega) (by omega))) ?_
                refine rg_q (q_move (x := .d (.v _)) rfl) ?_
                refine rg_nil ?_
                refine aops_nil ?_
                refine ⟨k + 1, by omega, by omega, ?_⟩
                exact le_head (ms := []) (by repeat (first | exact Out.head rfl rfl | (refine Out.put ?_ rfl) | (refine Out.site ?_ rfl) | (refine Out.headIn ?_ rfl rfl rfl))) ⟨(by rfl), (by ((show T.d (.v (.int .u64 _)) = T.d (.v (.int .u64 _)); rw [hu]))), trivial⟩ trivial rfl rfl rfl rfl
            ·
              (try simp only [nb, ne_eq] at hc14)
              have hkn : k = c.all.length := by (try simp only [List.length_map] at hc14); omega
              subst hkn
              refine awp_exit ?_
              change Awp _ _ _ _ _
              refine awp_seq ?_
              refine awp_region 3 mixed (by kernel_rfl) ?_
              refine rg_q (q_move (x := .d (.sl _ _)) rfl) ?_
              refine rg_q (q_loadA (ds := [_, _, _, _, _, _, _, _, _]) sz30 rfl rfl rfl) ?_
              refine rg_q (q_build pl85 zr85 rfl (.cons rfl (by exact .inl rfl) (.cons rfl (by exact .inr ⟨_, rfl⟩) .nil)) ⟨⟨rfl, by decide⟩, ⟨rfl, by decide⟩, trivial⟩ rfl) ?_
              refine rg_nil ?_
              refine aops_box rfl (by exact .inr ⟨_, rfl⟩) rfl rfl rfl ?_
              refine aops_q rfl (q_assign (x := .ref _ _) rfl) ?_
              refine aops_nil ?_
              change Awp _ _ _ _ _
              refine awp_seq ?_
              refine awp_region 4 mixed (by kernel_rfl) ?_
              refine rg_q (q_move (x := .ref _ _) rfl) ?_
              refine rg_q (q_fieldAddr fld30_0 rfl) ?_
              refine rg_q (q_loadA (ds := [_, _, _, _, _, _]) sz27 rfl rfl rfl) ?_
              refine rg_q (q_move (x := .d (.v _)) rfl) ?_
              refine rg_nil ?_
              refine aops_callLG hGB hNG [94] [] en38 (try_ok hl7 hok hw w.m 0 (s3K c.all w.m c.all.length) ⟨zMk, 0, false⟩ hto) (.cons rfl (.cons rfl (.cons rfl (.cons rfl (.cons rfl .nil))))) rfl rfl rfl (by repeat (first | exact trivial | refine ⟨rfl, ?_⟩)) (by repeat (exact trivial)) rfl ?_
              refine aops_nil ?_
              change Awp _ _ _ _ _
              refine awp_seq ?_
              refine awp_seq ?_
              refine awp_region 5 mixed (by kernel_rfl) ?_
              refine rg_q (q_move (x := .ref _ _) rfl) ?_
              refine rg_q (q_nilCheck_ref rfl) ?_
              refine rg_q (q_fieldAddr_ref fld85_4 rfl) ?_
              refine rg_q (q_load_ref sz4 rfl rfl rfl) ?_
              refine rg_q (q_not rfl) ?_
              refine rg_nil ?_
              refine aops_nil ?_
              change Awp _ _ _ _ _
              refine awp_cond rfl (fun hc21 => ?_) (fun hc21 => ?_)
              ·
                have hf : ¬ (lcX c w).fnd = true := by rw [show (lcX c w).fnd = false by simpa [lcX] using hc21]; decide
                have hz : lc c w = (zMk, 0, 12) := if_neg hf
                refine awp_seq ?_
                refine awp_region 1 mixed (by kernel_rfl) ?_
                refine rg_q (q_buildA (cs := [_, _, _, _, _, _]) ar27 zr27 rfl .nil trivial rfl) ?_
                refine rg_nil ?_
                refine aops_store sz27 rfl rfl (by exact .inr ⟨_, rfl⟩) rfl rfl (by decide) rfl ?_
                refine aops_q rfl (q_assign (x := .d (.v _)) rfl) ?_
                refine aops_q rfl (q_assign (x := .d (.v _)) rfl) ?_
                refine aops_nil ?_
                change Awp _ _ _ _ _
                refine awp_ret ?_
                refine ⟨_, (.cons (.cellA rfl rfl sz27 rfl) (.cons (.tmp (by exact .d _)) (.cons (.tmp (by exact .d _)) .nil))), ?_⟩
                rw [hz]; rfl
              ·
                have hf : (lcX c w).fnd = true := by simpa [lcX] using hc21
                have hz : lc c w = ((lcX c w).best, (lcX c w).cost, 0) := if_pos hf
                refine awp_skip ?_
                change Awp _ _ _ _ _
                refine awp_seq ?_
                refine awp_regionM 11 [none, none, none, none, none, none, none, none, some 4, none, none] mixed (by kernel_rfl) ?_
                refine rgm_q rfl (q_move (x := .ref _ _) rfl) ?_
                refine rgm_q rfl (q_nilCheck_ref rfl) ?_
                refine rgm_q rfl (q_fieldAddr_ref fld85_2 rfl) ?_
                refine rgm_q rfl (q_load_refA (ds := [_, _, _, _, _, _]) sz27 rfl rfl rfl rfl) ?_
                refine rgm_q rfl (q_move (x := .ref _ _) rfl) ?_
                refine rgm_q rfl (q_nilCheck_ref rfl) ?_
                refine rgm_q rfl (q_fieldAddr_ref fld85_3 rfl) ?_
                refine rgm_q rfl (q_load_ref sz3 rfl rfl rfl) ?_
                refine rgm_m (k := 4) rfl rfl (by rfl) (m_store sz27 rfl rfl (by exact .inr ⟨_, rfl⟩) rfl rfl (by decide) rfl) ?_
                refine rgm_q rfl (q_assign (x := .d (.v _)) rfl) ?_
                refine rgm_q rfl (q_assign (x := .d (.v _)) rfl) ?_
                refine rgm_nil (aops_nil ?_)
                change Awp _ _ _ _ _
                refine awp_ret ?_
                refine ⟨_, (.cons (.cellA rfl rfl sz27 rfl) (.cons (.tmp (by exact .d _)) (.cons (.tmp (by exact .d _)) .nil))), ?_⟩
                rw [hz]; rfl
  ·
    exact absurd h1 (by simpa using hc2)
end Go.Proofs.YthpggoophcdgnaaDoor.Am.M
