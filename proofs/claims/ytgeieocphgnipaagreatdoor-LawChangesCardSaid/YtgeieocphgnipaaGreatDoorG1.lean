/- Contracts over the abstract machine: package law: changed laws. Conditions: none. -/
import Derived.Test.YtgeieocphgnipaaGreatDoorF12
set_option linter.unusedVariables false
set_option linter.unusedSimpArgs false
-- mini
namespace Go.Proofs.YtgeieocphgnipaaGreatDoor.Am.M
open Go

/-- What is built: a law, or ErrLarge. -/
def bltR (f : Int → Int) (c : Int) (n : Nat) : Dly × Int := if (List.range n).all (fun i => decide (f (i : Int) ≤ 1000000)) = true then (⟨c, bltL f n⟩, 0) else (⟨0, []⟩, 8)
theorem bltR_ok {f : Int → Int} {c : Int} {n : Nat} (h : ∀ i : Nat, i < n → f (i : Int) ≤ 1000000) : bltR f c n = (⟨c, bltL f n⟩, 0) := by
  unfold bltR
  rw [if_pos]
  rw [List.all_eq_true]
  intro i hi
  exact decide_eq_true (h i (List.mem_range.1 hi))
theorem bltR_bad {f : Int → Int} {c : Int} {n : Nat} {i : Nat} (hi : i < n) (h : 1000000 < f (i : Int)) : bltR f c n = (⟨0, []⟩, 8) := by
  unfold bltR
  rw [if_neg]
  intro hh
  have := of_decide_eq_true (List.all_eq_true.1 hh i (List.mem_range.2 hi))
  omega
theorem bltR_cases (f : Int → Int) (c : Int) (n : Nat) : ((∀ i : Nat, i < n → f (i : Int) ≤ 1000000) ∧ bltR f c n = (⟨c, bltL f n⟩, 0)) ∨ bltR f c n = (⟨0, []⟩, 8) := by
  unfold bltR
  split
  · rename_i h
    exact .inl ⟨fun i hi => of_decide_eq_true (List.all_eq_true.1 h i (List.mem_range.2 hi)), rfl⟩
  · exact .inr rfl
theorem bltL_len (f : Int → Int) (k : Nat) : (bltL f k).length = k := by unfold bltL; rw [List.length_map, List.length_range]
theorem bltL_at {f : Int → Int} {k i : Nat} (h : i < k) : (bltL f k)[i]? = some (f (i : Int)) := by
  unfold bltL; rw [List.getElem?_map, List.getElem?_range h]; rfl
theorem bltL_congr {f g : Int → Int} {n : Nat} (h : ∀ i : Nat, i < n → f (i : Int) = g (i : Int)) : bltL f n = bltL g n := by
  unfold bltL
  exact List.map_congr_left fun i hi => h i (List.mem_range.1 hi)
theorem bltR_congr {f g : Int → Int} {c : Int} {n : Nat} (h : ∀ i : Nat, i < n → f (i : Int) = g (i : Int)) : bltR f c n = bltR g c n := by
  rcases bltR_cases f c n with ⟨h1, h2⟩ | h1
  · rw [h2, bltR_ok fun i hi => by rw [← h i hi]; exact h1 i hi, bltL_congr h]
  · rcases bltR_cases g c n with ⟨h3, h4⟩ | h3
    · rw [bltR_ok fun i hi => by rw [h i hi]; exact h3 i hi] at h1
      exact absurd (show (0 : Int) = 8 from congrArg Prod.snd h1) (by decide)
    · rw [h1, h3]
def tkA (x : Dly) (i : Int) : Int := x.tk.getD i.toNat 0
theorem tkA_at {x : Dly} {i : Nat} {n : Int} (h : x.tk[i]? = some n) : tkA x (i : Int) = n := by unfold tkA; rw [List.getD_eq_getElem?_getD, Int.toNat_natCast, h]; rfl
/-- Changed ticks: elements that do not send stay so. -/
def chgF (x : Dly) (h : Int → Int → Int) (i : Int) : Int := if 0 ≤ tkA x i then h i (tkA x i) else -1
theorem sz1 : szB Tryz.prog 1 false 1 = true := by kernel_rfl
theorem sz76 : szB Tryz.prog 76 false 1 = true := by kernel_rfl
set_option maxRecDepth 100000 in
theorem builtR_p (f : Int → Int) (g : FuncId) (cap : List D) (hen : enB Tryz.prog g = true) (c : Int) (n : Nat) (hn : n ≤ 1000) (hf : ∀ i : Nat, i < n → PC Tryz.prog g (.v (.int .i64 (i : Int)) :: cap) (.v (.int .i64 (f (i : Int))))) : PC Tryz.prog 107 [.v (.int .i64 (c)), .v (.int .i64 ((n : Int))), .fn (.func g) cap] (.tup [.agg (dlyC (bltR f c n).1), .v (.int .i64 ((bltR f c n).2))]) := by
  refine pc_of_awpN Tryz.func107 rfl Tryz.ntmps107 (rs := [.cell 6 33, .tmp 7]) Tryz.results107 (by simp) fun w0 hmine hrnd hpn => ?_
  refine awp_seq ?_
  refine awp_region 0 mixed (by kernel_rfl) ?_
  refine rg_nil ?_
  refine aops_alloc zr33 rfl rfl rfl ?_
  refine aops_q rfl (q_assign (x := .d (.v _)) rfl) ?_
  refine aops_nil ?_
  change Awp _ _ _ _ _
  refine awp_seq ?_
  refine awp_region 2 mixed (by kernel_rfl) ?_
  refine rg_q (q_move (x := .d (.v _)) rfl) ?_
  refine rg_q (q_build (cs := [_, _]) pl33 zr33 rfl (.cons rfl (by exact .inl rfl) .nil) ⟨⟨rfl, by decide⟩, trivial⟩ rfl) ?_
  refine rg_nil ?_
  refine aops_alloc zr33 rfl rfl rfl ?_
  refine aops_store sz33 rfl rfl (by exact .inr ⟨_, rfl⟩) rfl rfl (by decide) rfl ?_
  refine aops_nil ?_
  change Awp _ _ _ _ _
  refine awp_seq ?_
  refine awp_seq ?_
  refine Awp.le (le_ownB 8 27 1 3 1 rfl rfl rfl) ?_
  refine awp_region 2 mixed (by kernel_rfl) ?_
  refine rg_q (q_move (x := .d (.v _)) rfl) ?_
  refine rg_q (q_move (x := .d (.v _)) rfl) ?_
  refine rg_nil ?_
  refine aops_nil ?_
  change Awp _ _ _ _ _
  refine awp_block ?_
  refine awp_loopH [7, 9, 10, 14, 15, 16, 17, 18, 19, 20, 21, 22, 23, 24, 25, 26, 27, 28, 29] [8, 27] (α := Nat) (fun k => [(14, T.i (k : Int))]) (fun k => [(8, .tbox [.d (.v (.int .i64 c)), .rs 27]), (27, .row 3 1 ((bltL f k).map iC))]) (fun k => k ≤ n ∧ ∀ i : Nat, i < k → f (i : Int) ≤ 1000000) (fun k => n - k) 0 ⟨Nat.zero_le _, fun i hi => absurd hi (Nat.not_lt_zero _)⟩ ?_ ?_
  · exact le_head (ms := [8, 27]) (by repeat (exact Out.refl _)) ⟨(by rfl), trivial⟩ ⟨(by rfl), (by rfl), trivial⟩ rfl rfl rfl rfl
  ·
    intro k ⟨hk, hall⟩
    refine awp_seq ?_
    refine awp_region 1 mixed (by kernel_rfl) ?_
    refine rg_q (q_lss rfl rfl) ?_
    refine rg_nil ?_
    refine aops_nil ?_
    change Awp _ _ _ _ _
    refine awp_seq ?_
    refine awp_cond rfl (fun hc3 => ?_) (fun hc3 => ?_)
    ·
      (try simp only [decide_eq_true_eq, decide_eq_false_iff_not, Bool.and_eq_true, Bool.or_eq_true, Bool.and_eq_false_iff, Bool.or_eq_false_iff, Bool.not_eq_true', Bool.not_eq_false', Bool.not_true, Bool.not_false, bif_and, bif_or, Bool.not_not, ne_eq, Decidable.not_not, not_true_eq_false, not_false_eq_true, Int.not_le, Int.not_lt] at hc3)
      have hlt : k < n := by omega
      have hfx := hf k hlt
      have hsk := bltL_succ f k
      have hln : (bltL f k).length ≤ 1000 := by unfold bltL; rw [List.length_map, List.length_range]; omega
      refine awp_skip ?_
      change Awp _ _ _ _ _
      refine awp_seq ?_
      refine awp_block ?_
      refine awp_seq ?_
      refine awp_region 2 mixed (by kernel_rfl) ?_
      refine rg_q (q_move (x := .d (.v _)) rfl) ?_
      refine rg_q (q_assign (x := .d (.v _)) rfl) ?_
      refine rg_nil ?_
      refine aops_nil ?_
      change Awp _ _ _ _ _
      refine awp_seq ?_
      refine awp_region 4 mixed (by kernel_rfl) ?_
      refine rg_q (q_move (x := .d (.fn _ _)) rfl) ?_
      refine rg_q (q_move (x := .d (.v _)) rfl) ?_
      refine rg_q (q_callC hen rfl (.cons rfl .nil) (hfx)) ?_
      refine rg_q (q_assign (x := .d (.v _)) rfl) ?_
      refine rg_nil ?_
      refine aops_nil ?_
      change Awp _ _ _ _ _
      refine awp_seq ?_
      refine awp_seq ?_
      refine awp_region 2 mixed (by kernel_rfl) ?_
      refine rg_q (q_move (x := .d (.v _)) rfl) ?_
      refine rg_q (q_gtr rfl rfl) ?_
      refine rg_nil ?_
      refine aops_nil ?_
      change Awp _ _ _ _ _
      refine awp_cond rfl (fun hc6 => ?_) (fun hc6 => ?_)
      ·
        (try simp only [decide_eq_true_eq, decide_eq_false_iff_not, Bool.and_eq_true, Bool.or_eq_true, Bool.and_eq_false_iff, Bool.or_eq_false_iff, Bool.not_eq_true', Bool.not_eq_false', Bool.not_true, Bool.not_false, bif_and, bif_or, Bool.not_not, ne_eq, Decidable.not_not, not_true_eq_false, not_false_eq_true, Int.not_le, Int.not_lt] at hc6)
        have hz := bltR_bad (c := c) hlt (by omega)
        refine awp_seq ?_
        refine awp_region 1 mixed (by kernel_rfl) ?_
        refine rg_q (q_build (cs := [_, _]) pl33 zr33 rfl .nil trivial rfl) ?_
        refine rg_nil ?_
        refine aops_store sz33 rfl rfl (by exact .inr ⟨_, rfl⟩) rfl rfl (by decide) rfl ?_
        refine aops_q rfl (q_assign (x := .d (.v _)) rfl) ?_
        refine aops_nil ?_
        change Awp _ _ _ _ _
        refine Awp.le (le_upB 6 (dlyC ⟨0, []⟩) rfl (.cons (.same _) (.cons (.nil 1) .nil))) ?_
        refine awp_ret ?_
        refine ⟨_, (.cons (.cellA rfl rfl sz33 rfl) (.cons (.tmp (by exact .d _)) .nil)), ?_⟩
        rw [hz]; rfl
      ·
        (try simp only [decide_eq_true_eq, decide_eq_false_iff_not, Bool.and_eq_true, Bool.or_eq_true, Bool.and_eq_false_iff, Bool.or_eq_false_iff, Bool.not_eq_true', Bool.not_eq_false', Bool.not_true, Bool.not_false, bif_and, bif_or, Bool.not_not, ne_eq, Decidable.not_not, not_true_eq_false, not_false_eq_true, Int.not_le, Int.not_lt] at hc6)
        have hall2 : ∀ i : Nat, i < k + 1 → f (i : Int) ≤ 1000000 := fun i hi => by
          by_cases e : i = k
          · subst e; omega
          · exact hall i (by omega)
        refine awp_skip ?_
        change Awp _ _ _ _ _
        refine awp_region 4 mixed (by kernel_rfl) ?_
        refine rg_q (q_fieldAddr_ref fld33_1 rfl) ?_
        refine rg_q (q_load_tb (x := .rs _) sz31 rfl rfl rfl) ?_
        refine rg_q (q_move (x := .d (.v _)) rfl) ?_
        refine rg_q (q_buildSlice sl31 zr3 rfl rfl (by decide) (.cons rfl (by exact .inl rfl) .nil) ⟨rfl, rfl, trivial⟩ rfl (by decide) rfl) ?_
        refine rg_nil ?_
        refine aops_append sl31 zr3 by3 rfl (by decide) rfl rfl rfl rfl (by (try simp only [List.length_map, List.length_append, List.length_cons, List.length_nil]); omega) (by (try simp only [List.length_map, List.length_append, List.length_cons, List.length_nil]); omega) rfl rfl ?_
        refine aops_q rfl (q_fieldAddr_ref fld33_1 rfl) ?_
        refine aops_storeT (z := .rs _) sz31 rfl rfl rfl rfl (by simp) rfl ?_
        refine aops_nil ?_
        change Awp _ _ _ _ _
        refine awp_region 2 mixed (by kernel_rfl) ?_
        refine rg_q (q_add rfl rfl (In64.mk (by omega) (by omega))) ?_
        refine rg_q (q_move (x := .d (.v _)) rfl) ?_
        refine rg_nil ?_
        refine aops_nil ?_
        refine ⟨k + 1, ⟨by omega, hall2⟩, by omega, ?_⟩
        exact le_head (ms := [8, 27]) (by repeat (first | exact Out.head rfl rfl | (refine Out.put ?_ rfl) | (refine Out.site ?_ rfl) | (refine Out.killS ?_ rfl))) ⟨(by rfl), trivial⟩ ⟨(by rfl), (by (show Site.row 3 1 (_ ++ [_]) = Site.row 3 1 _; rw [hsk, List.map_append]; rfl)), trivial⟩ rfl rfl rfl rfl
    ·
      (try simp only [decide_eq_true_eq, decide_eq_false_iff_not, Bool.and_eq_true, Bool.or_eq_true, Bool.and_eq_false_iff, Bool.or_eq_false_iff, Bool.not_eq_true', Bool.not_eq_false', Bool.not_true, Bool.not_false, bif_and, bif_or, Bool.not_not, ne_eq, Decidable.not_not, not_true_eq_false, not_false_eq_true, Int.not_le, Int.not_lt] at hc3)
      have hkn : n = k := by omega
      subst hkn
      have hz := bltR_ok (c := c) hall
      refine awp_exit ?_
      change Awp _ _ _ _ _
      refine awp_seq ?_
      refine Awp.le (le_freezeTB 8 27 1 rfl rfl rfl rfl hmine) ?_
      refine Awp.le (le_boxT 8 [.v (.int .i64 c), .sl 1 ((bltL f n).map iC)] rfl rfl (by intro j d h; match j, h with | 0, h => cases h; rfl | 1, h => cases h; rfl)) ?_
      refine awp_region 1 mixed (by kernel_rfl) ?_
      refine rg_q (q_load_refA (ds := [_, _]) sz33 rfl rfl rfl rfl) ?_
      refine rg_nil ?_
      refine aops_store sz33 rfl rfl (by exact .inr ⟨_, rfl⟩) rfl rfl (by decide) rfl ?_
      refine aops_q rfl (q_assign (x := .d (.v _)) rfl) ?_
      refine aops_nil ?_
      change Awp _ _ _ _ _
      refine awp_ret ?_
      refine ⟨_, (.cons (.cellA rfl rfl sz33 rfl) (.cons (.tmp (by exact .d _)) .nil)), ?_⟩
      rw [hz]; rfl
set_option maxRecDepth 100000 in
theorem changed1_p (x : Dly) (h : Int → Int → Int) (g : FuncId) (cap : List D) (hen : enB Tryz.prog g = true) (i : Nat) (n : Int) (hx : x.tk[i]? = some n) (hg : 0 ≤ n → PC Tryz.prog g ([.v (.int .i64 (i : Int)), .v (.int .i64 n)] ++ cap) (.v (.int .i64 (h (i : Int) n)))) : PC Tryz.prog 149 [.v (.int .i64 ((i : Int))), .pt (dlyC x) 0, .pt [.fn (.func g) cap] 0] (.v (.int .i64 (chgF x h (i : Int)))) := by
  have hlt := (List.getElem?_eq_some_iff.1 hx).1
  have ht := tkA_at hx
  refine pc_of_awp Tryz.func149 rfl Tryz.ntmps149 (rs := [.tmp 4]) Tryz.results149 (by simp) fun w0 => ?_
  refine awp_seq ?_
  refine awp_region 1 mixed (by kernel_rfl) ?_
  refine rg_q (q_assign (x := .d (.v _)) rfl) ?_
  refine rg_nil ?_
  refine aops_nil ?_
  change Awp _ _ _ _ _
  refine awp_seq ?_
  refine awp_seq ?_
  refine awp_region 7 mixed (by kernel_rfl) ?_
  refine rg_q (q_fieldAddr fld33_1 rfl) ?_
  refine rg_q (q_load sz31 rfl rfl) ?_
  refine rg_q (q_move (x := .d (.v _)) rfl) ?_
  refine rg_q (q_indexAddr sl31 rfl rfl (by omega) (map_at (by omega) hx)) ?_
  refine rg_q (q_load sz3 rfl rfl) ?_
  refine rg_q (q_call en120 (.cons rfl .nil) rfl (sends_p _)) ?_
  refine rg_q (q_not rfl) ?_
  refine rg_nil ?_
  refine aops_nil ?_
  change Awp _ _ _ _ _
  refine awp_cond rfl (fun hc1 => ?_) (fun hc1 => ?_)
  ·
    (try simp only [decide_eq_true_eq, decide_eq_false_iff_not, Bool.and_eq_true, Bool.or_eq_true, Bool.and_eq_false_iff, Bool.or_eq_false_iff, Bool.not_eq_true', Bool.not_eq_false', Bool.not_true, Bool.not_false, bif_and, bif_or, Bool.not_not, ne_eq, Decidable.not_not, not_true_eq_false, not_false_eq_true, Int.not_le, Int.not_lt] at hc1)
    have hz : chgF x h (i : Int) = -1 := by unfold chgF; rw [ht, if_neg (by omega)]
    refine awp_seq ?_
    refine awp_region 1 mixed (by kernel_rfl) ?_
    refine rg_q (q_assign (x := .d (.v _)) rfl) ?_
    refine rg_nil ?_
    refine aops_nil ?_
    change Awp _ _ _ _ _
    refine awp_ret ?_
    refine ⟨_, (.cons (.tmp (by exact .d _)) .nil), ?_⟩
    rw [hz]; rfl
  ·
    (try simp only [decide_eq_true_eq, decide_eq_false_iff_not, Bool.and_eq_true, Bool.or_eq_true, Bool.and_eq_false_iff, Bool.or_eq_false_iff, Bool.not_eq_true', Bool.not_eq_false', Bool.not_true, Bool.not_false, bif_and, bif_or, Bool.not_not, ne_eq, Decidable.not_not, not_true_eq_false, not_false_eq_true, Int.not_le, Int.not_lt] at hc1)
    have hn0 : 0 ≤ n := by omega
    have hgx := hg hn0
    have hz : chgF x h (i : Int) = h (i : Int) n := by unfold chgF; rw [ht, if_pos hn0]
    refine awp_skip ?_
    change Awp _ _ _ _ _
    refine awp_seq ?_
    refine awp_region 9 mixed (by kernel_rfl) ?_
    refine rg_q (q_load sz76 rfl rfl) ?_
    refine rg_q (q_move (x := .d (.v _)) rfl) ?_
    refine rg_q (q_fieldAddr fld33_1 rfl) ?_
    refine rg_q (q_load sz31 rfl rfl) ?_
    refine rg_q (q_move (x := .d (.v _)) rfl) ?_
    refine rg_q (q_indexAddr sl31 rfl rfl (by omega) (map_at (by omega) hx)) ?_
    refine rg_q (q_load sz3 rfl rfl) ?_
    refine rg_q (q_callC hen rfl (.cons rfl (.cons rfl .nil)) (hgx)) ?_
    refine rg_q (q_assign (x := .d (.v _)) rfl) ?_
    refine rg_nil ?_
    refine aops_nil ?_
    change Awp _ _ _ _ _
    refine awp_ret ?_
    refine ⟨_, (.cons (.tmp (by exact .d _)) .nil), ?_⟩
    rw [hz]; rfl
set_option maxRecDepth 100000 in
theorem changed_p (x : Dly) (h : Int → Int → Int) (g : FuncId) (cap : List D) (hen : enB Tryz.prog g = true) (c : Int) (hn : x.tk.length ≤ 1000) (hg : ∀ (i : Nat) (n : Int), x.tk[i]? = some n → 0 ≤ n → PC Tryz.prog g ([.v (.int .i64 (i : Int)), .v (.int .i64 n)] ++ cap) (.v (.int .i64 (h (i : Int) n)))) : PC Tryz.prog 118 [.agg (dlyC x), .v (.int .i64 (c)), .fn (.func g) cap] (.tup [.agg (dlyC (bltR (chgF x h) c x.tk.length).1), .v (.int .i64 ((bltR (chgF x h) c x.tk.length).2))]) := by
  refine pc_of_awp Tryz.func118 rfl Tryz.ntmps118 (rs := [.cell 6 33, .tmp 7]) Tryz.results118 (by simp) fun w0 => ?_
  refine awp_seq ?_
  refine awp_region 2 mixed (by kernel_rfl) ?_
  refine rg_q (q_box rfl (by exact .inr ⟨_, rfl⟩)) ?_
  refine rg_q (q_box rfl (by exact .inl rfl)) ?_
  refine rg_nil ?_
  refine aops_alloc zr33 rfl rfl rfl ?_
  refine aops_q rfl (q_assign (x := .d (.v _)) rfl) ?_
  refine aops_nil ?_
  change Awp _ _ _ _ _
  refine awp_seq ?_
  refine awp_region 8 mixed (by kernel_rfl) ?_
  refine rg_q (q_move (x := .d (.v _)) rfl) ?_
  refine rg_q (q_fieldAddr fld33_1 rfl) ?_
  refine rg_q (q_load sz31 rfl rfl) ?_
  refine rg_q (q_len isl31 rfl (by exact len_map _ _)) ?_
  refine rg_q (q_makeFunc (.cons rfl (.cons rfl .nil))) ?_
  refine rg_q (q_call en107 (.cons rfl (.cons rfl (.cons rfl .nil))) rfl ((by have hb := builtR_p (chgF x h) 149 [.pt (dlyC x) 0, .pt [.fn (.func g) cap] 0] en149 c x.tk.length hn (fun i hi => changed1_p x h g cap hen i _ (List.getElem?_eq_getElem hi) (hg i _ (List.getElem?_eq_getElem hi))); exact hb))) ?_
  refine rg_q (q_extract rfl rfl) ?_
  refine rg_q (q_extract rfl rfl) ?_
  refine rg_nil ?_
  refine aops_store sz33 rfl rfl (by exact .inr ⟨_, rfl⟩) rfl rfl (by decide) rfl ?_
  refine aops_q rfl (q_assign (x := .d (.v _)) rfl) ?_
  refine aops_nil ?_
  change Awp _ _ _ _ _
  refine awp_len (t := 10) rfl (fun hl10 => ?_)
  (try simp only [List.length_map] at hl10)
  refine awp_ret ?_
  refine ⟨_, (.cons (.cellA rfl rfl sz33 rfl) (.cons (.tmp (by exact .d _)) .nil)), ?_⟩
  rfl

def leastT (x : Dly) : Int := minF ((sndL x).map fun p => p.2)
def nrmR (x : Dly) : Dly × Int := if (ckLaw x).2 ≠ 0 then (⟨0, []⟩, (ckLaw x).2) else if (sndL x).length = 0 then (⟨0, []⟩, 12) else bltR (chgF x fun _ t => t - leastT x) x.ck x.tk.length
theorem minF_mem : ∀ {l : List Int}, l ≠ [] → minF l ∈ l
  | [], h => absurd rfl h
  | x :: xs, _ => by
    have : ∀ (xs : List Int) (x : Int), xs.foldl min x ∈ x :: xs := by
      intro xs
      induction xs with
      | nil => intro x; exact List.mem_singleton.2 rfl
      | cons y ys ih =>
        intro x
        have h := ih (min x y)
        rcases List.mem_cons.1 h with h | h
        · show ys.foldl min (min x y) ∈ _
          rw [h]
          rcases Int.le_total x y with q | q
          · rw [Int.min_eq_left q]; simp
          · rw [Int.min_eq_right q]; simp
        · exact List.mem_cons_of_mem _ (List.mem_cons_of_mem _ h)
    exact this xs x
theorem fold_min_top {b : Int} : ∀ {l : List Int}, l ≠ [] → (∀ x ∈ l, x ≤ b) → l.foldl min b = minF l
  | [], h, _ => absurd rfl h
  | x :: xs, _, h => by
    have := h x (by simp)
    show xs.foldl min (min b x) = xs.foldl min x
    rw [Int.min_eq_right this]
theorem snd_ticks {x : Dly} (hok : DlyOk x) : ∀ t ∈ (sndL x).map (fun p => p.2), 0 ≤ t ∧ t ≤ 1000000 := by
  intro t ht
  obtain ⟨p, hp, rfl⟩ := List.mem_map.1 ht
  obtain ⟨_, _, h3, h4⟩ := sndTo_in (Nat.le_refl _) (show p ∈ sndTo x.tk x.tk.length from hp)
  exact ⟨h4, (hok.tk _ (List.mem_of_getElem? h3)).2⟩
def mnF (x : Dly) (q : Nat) : Int := ((((sndL x).take q).map fun p => p.2)).foldl min 1000001
theorem mnF_succ {x : Dly} {q : Nat} {y : Int × Int} (h : (sndL x)[q]? = some y) : mnF x (q + 1) = min (mnF x q) y.2 := by
  obtain ⟨hlt, hx⟩ := List.getElem?_eq_some_iff.1 h
  unfold mnF
  rw [List.take_succ_eq_append_getElem hlt, hx, List.map_append, List.foldl_append]; rfl
theorem mnF_none {x : Dly} (h : (sndL x).length = 0) : mnF x (sndL x).length = 1000001 := by
  have : sndL x = [] := List.length_eq_zero_iff.1 h
  unfold mnF; rw [this]; rfl
theorem mnF_some {x : Dly} (hok : DlyOk x) (h : (sndL x).length ≠ 0) : mnF x (sndL x).length = leastT x ∧ 0 ≤ leastT x ∧ leastT x ≤ 1000000 := by
  have hne : (sndL x).map (fun p => p.2) ≠ [] := fun e => h (by have := congrArg List.length e; simpa using this)
  have ht := snd_ticks hok
  have hm : leastT x ∈ (sndL x).map fun p => p.2 := by
    unfold leastT
    exact minF_mem hne
  refine ⟨?_, ht _ hm⟩
  unfold mnF leastT
  rw [List.take_length]
  exact fold_min_top hne fun t h => by have := (ht t h).2; omega
set_option maxRecDepth 100000 in
theorem norm1_p (i : Int) (t m : Int) (h1 : 0 ≤ t) (h2 : t ≤ 1000000) (h3 : 0 ≤ m) (h4 : m ≤ 1000001) : PC Tryz.prog 121 [.v (.int .i64 (i)), .v (.int .i64 (t)), .pt [.v (.int .i64 (m))] 0] (.v (.int .i64 (t - m))) := by
  refine pc_of_awp Tryz.func121 rfl Tryz.ntmps121 (rs := [.tmp 5]) Tryz.results121 (by simp) fun w0 => ?_
  refine awp_seq ?_
  refine awp_region 1 mixed (by kernel_rfl) ?_
  refine rg_q (q_assign (x := .d (.v _)) rfl) ?_
  refine rg_nil ?_
  refine aops_nil ?_
  change Awp _ _ _ _ _
  refine awp_seq ?_
  refine awp_region 4 mixed (by kernel_rfl) ?_
  refine rg_q (q_move (x := .d (.v _)) rfl) ?_
  refine rg_q (q_load sz3 rfl rfl) ?_
  refine rg_q (q_sub rfl rfl (In64.mk (by omega) (by omega))) ?_
  refine rg_q (q_assign (x := .d (.v _)) rfl) ?_
  refine rg_nil ?_
  refine aops_nil ?_
  change Awp _ _ _ _ _
  refine awp_ret ?_
  refine ⟨_, (.cons (.tmp (by exact .d _)) .nil), ?_⟩
  rfl
set_option maxRecDepth 100000 in
theorem normalised_p (x : Dly) : PC Tryz.prog 64 [.agg (dlyC x)] (.tup [.agg (dlyC (nrmR x).1), .v (.int .i64 ((nrmR x).2))]) := by
  refine pc_of_awpN Tryz.func64 rfl Tryz.ntmps64 (rs := [.cell 2 33, .tmp 3]) Tryz.results64 (by simp) fun w0 hmine hrnd hpn => ?_
  refine awp_seq ?_
  refine awp_region 1 mixed (by kernel_rfl) ?_
  refine rg_q (q_box rfl (by exact .inr ⟨_, rfl⟩)) ?_
  refine rg_nil ?_
  refine aops_alloc zr33 rfl rfl rfl ?_
  refine aops_q rfl (q_assign (x := .d (.v _)) rfl) ?_
  refine aops_nil ?_
  change Awp _ _ _ _ _
  refine awp_seq ?_
  refine awp_seq ?_
  refine awp_region 3 mixed (by kernel_rfl) ?_
  refine rg_q (q_loadA (ds := [_, _]) sz33 rfl rfl rfl) ?_
  refine rg_q (q_call en102 (.cons rfl .nil) rfl (lawErr_p _)) ?_
  refine rg_q (q_assign (x := .d (.v _)) rfl) ?_
  refine rg_nil ?_
  refine aops_nil ?_
  change Awp _ _ _ _ _
  refine awp_seq ?_
  refine awp_region 2 mixed (by kernel_rfl) ?_
  refine rg_q (q_move (x := .d (.v _)) rfl) ?_
  refine rg_q (q_neq rfl rfl) ?_
  refine rg_nil ?_
  refine aops_nil ?_
  change Awp _ _ _ _ _
  refine awp_cond rfl (fun hc2 => ?_) (fun hc2 => ?_)
  ·
    (try simp only [decide_eq_true_eq, decide_eq_false_iff_not, Bool.and_eq_true, Bool.or_eq_true, Bool.and_eq_false_iff, Bool.or_eq_false_iff, Bool.not_eq_true', Bool.not_eq_false', Bool.not_true, Bool.not_false, bif_and, bif_or, Bool.not_not, ne_eq, Decidable.not_not, not_true_eq_false, not_false_eq_true, Int.not_le, Int.not_lt] at hc2)
    have hz : nrmR x = (⟨0, []⟩, (ckLaw x).2) := by unfold nrmR; rw [if_pos hc2]
    refine awp_seq ?_
    refine awp_region 2 mixed (by kernel_rfl) ?_
    refine rg_q (q_build (cs := [_, _]) pl33 zr33 rfl .nil trivial rfl) ?_
    refine rg_q (q_move (x := .d (.v _)) rfl) ?_
    refine rg_nil ?_
    refine aops_store sz33 rfl rfl (by exact .inr ⟨_, rfl⟩) rfl rfl (by decide) rfl ?_
    refine aops_q rfl (q_assign (x := .d (.v _)) rfl) ?_
    refine aops_nil ?_
    change Awp _ _ _ _ _
    refine Awp.le (le_upB 2 (dlyC ⟨0, []⟩) rfl (.cons (.same _) (.cons (.nil 1) .nil))) ?_
    refine awp_ret ?_
    refine ⟨_, (.cons (.cellA rfl rfl sz33 rfl) (.cons (.tmp (by exact .d _)) .nil)), ?_⟩
    rw [hz]; rfl
  ·
    (try simp only [decide_eq_true_eq, decide_eq_false_iff_not, Bool.and_eq_true, Bool.or_eq_true, Bool.and_eq_false_iff, Bool.or_eq_false_iff, Bool.not_eq_true', Bool.not_eq_false', Bool.not_true, Bool.not_false, bif_and, bif_or, Bool.not_not, ne_eq, Decidable.not_not, not_true_eq_false, not_false_eq_true, Int.not_le, Int.not_lt] at hc2)
    have hz0 : (ckLaw x).2 = 0 := by simpa using hc2
    have hok := (ckLaw_ok hz0).1
    refine awp_skip ?_
    change Awp _ _ _ _ _
    refine awp_seq ?_
    refine awp_region 0 mixed (by kernel_rfl) ?_
    refine rg_nil ?_
    refine aops_alloc zr3 rfl rfl rfl ?_
    refine aops_store sz3 rfl rfl (by exact .inl rfl) rfl rfl (by decide) rfl ?_
    refine aops_nil ?_
    change Awp _ _ _ _ _
    refine awp_seq ?_
    refine awp_seq ?_
    refine awp_region 2 mixed (by kernel_rfl) ?_
    refine rg_q (q_loadA (ds := [_, _]) sz33 rfl rfl rfl) ?_
    refine rg_q (q_call en104 (.cons rfl .nil) rfl (senders_p _)) ?_
    refine rg_nil ?_
    refine aops_nil ?_
    change Awp _ _ _ _ _
    refine awp_block ?_
    refine awp_rangeC (α := Int × Int) (β := Nat) (n := 31) (enc := fun p : Int × Int => [.v (.int .i64 p.1), .v (.int .i64 p.2)]) (items := sndL x) 1000 [(1, .d (.pt (dlyC x) 0)), (2, .ref 2 0), (5, .ref 5 0), (15, .d (.fn (.func 146) [.pt (dlyC x) 0]))] (fun q => [(2, .box [.v (.int .i64 0), .v (.slice none 0 0)]), (5, .box [.v (.int .i64 (mnF x q))])]) (fun k q => q = k ∧ k ≤ (sndL x).length) (fun e q => False) 0 hrnd ?_ (.inr ⟨rfl, rfl⟩) en146 (senders_i x) rfl (fun _ => rfl) rfl (fun _ => by repeat first | exact trivial | refine ⟨by exact .v _, ?_⟩) (fun _ => rfl) ⟨rfl, Nat.zero_le _⟩ (fun h => by cases h) ?_ ?_ ?_
    · exact le_cst (fun k => k) _ _ rfl ⟨rfl, rfl, rfl, rfl, trivial⟩ ⟨rfl, rfl, trivial⟩ rfl (fun k b h => by rw [hpn k] at h; cases h)
    ·
      intro w1 hw1 k q y hI hy
      obtain ⟨rfl, hk⟩ := hI
      have hql : q < (sndL x).length := (List.getElem?_eq_some_iff.1 hy).1
      have hs1 := mnF_succ hy
      refine awp_region 1 mixed (by kernel_rfl) ?_
      refine rg_q (q_assign (x := .d (.v _)) rfl) ?_
      refine rg_nil ?_
      refine aops_nil ?_
      refine ⟨rfl, fun w2 hw2 => ?_⟩
      refine awp_block ?_
      refine awp_region 3 mixed (by kernel_rfl) ?_
      refine rg_q (q_load_ref sz3 rfl rfl rfl) ?_
      refine rg_q (q_move (x := .d (.v _)) rfl) ?_
      refine rg_q (q_min rfl rfl) ?_
      refine rg_nil ?_
      refine aops_store sz3 rfl rfl (by exact .inl rfl) rfl rfl (by simp; done) rfl ?_
      refine aops_nil ?_
      refine .inl ⟨rfl, q + 1, ⟨rfl, hql⟩, ?_⟩
      exact le_round [] _ hw2 rfl ⟨(by rfl), (by (show Site.box [_] = Site.box [_]; rw [hs1])), trivial⟩ rfl
    ·
      intro q hI
      obtain ⟨rfl, _⟩ := hI
      change Awp _ _ _ _ _
      refine awp_seq ?_
      refine awp_seq ?_
      refine awp_region 2 mixed (by kernel_rfl) ?_
      refine rg_q (q_load_ref sz3 rfl rfl rfl) ?_
      refine rg_q (q_gtr rfl rfl) ?_
      refine rg_nil ?_
      refine aops_nil ?_
      change Awp _ _ _ _ _
      refine awp_cond rfl (fun hc8 => ?_) (fun hc8 => ?_)
      ·
        (try simp only [decide_eq_true_eq, decide_eq_false_iff_not, Bool.and_eq_true, Bool.or_eq_true, Bool.and_eq_false_iff, Bool.or_eq_false_iff, Bool.not_eq_true', Bool.not_eq_false', Bool.not_true, Bool.not_false, bif_and, bif_or, Bool.not_not, ne_eq, Decidable.not_not, not_true_eq_false, not_false_eq_true, Int.not_le, Int.not_lt] at hc8)
        have hl0 : (sndL x).length = 0 := by
          by_cases e : (sndL x).length = 0
          · exact e
          · have := mnF_some hok e; omega
        have hz : nrmR x = (⟨0, []⟩, 12) := by unfold nrmR; rw [if_neg (by rw [hz0]; simp), if_pos hl0]
        refine awp_seq ?_
        refine awp_region 1 mixed (by kernel_rfl) ?_
        refine rg_q (q_build (cs := [_, _]) pl33 zr33 rfl .nil trivial rfl) ?_
        refine rg_nil ?_
        refine aops_store sz33 rfl rfl (by exact .inr ⟨_, rfl⟩) rfl rfl (by decide) rfl ?_
        refine aops_q rfl (q_assign (x := .d (.v _)) rfl) ?_
        refine aops_nil ?_
        change Awp _ _ _ _ _
        refine Awp.le (le_upB 2 (dlyC ⟨0, []⟩) rfl (.cons (.same _) (.cons (.nil 1) .nil))) ?_
        refine awp_ret ?_
        refine ⟨_, (.cons (.cellA rfl rfl sz33 rfl) (.cons (.tmp (by exact .d _)) .nil)), ?_⟩
        rw [hz]; rfl
      ·
        (try simp only [decide_eq_true_eq, decide_eq_false_iff_not, Bool.and_eq_true, Bool.or_eq_true, Bool.and_eq_false_iff, Bool.or_eq_false_iff, Bool.not_eq_true', Bool.not_eq_false', Bool.not_true, Bool.not_false, bif_and, bif_or, Bool.not_not, ne_eq, Decidable.not_not, not_true_eq_false, not_false_eq_true, Int.not_le, Int.not_lt] at hc8)
        have hl0 : (sndL x).length ≠ 0 := fun e => by have := mnF_none e; omega
        obtain ⟨e1, e2, e3⟩ := mnF_some hok hl0
        have hz : nrmR x = bltR (chgF x fun _ t => t - leastT x) x.ck x.tk.length := by unfold nrmR; rw [if_neg (by rw [hz0]; simp), if_neg hl0]
        rw [e1]
        refine awp_skip ?_
        change Awp _ _ _ _ _
        refine awp_seq ?_
        refine Awp.le (le_freeze 5 5 0 (cs := [.v (.int .i64 (leastT x))]) rfl rfl rfl rfl hmine) ?_
        refine awp_region 7 mixed (by kernel_rfl) ?_
        refine rg_q (q_loadA (ds := [_, _]) sz33 rfl rfl rfl) ?_
        refine rg_q (q_fieldAddr fld33_0 rfl) ?_
        refine rg_q (q_load sz3 rfl rfl) ?_
        refine rg_q (q_makeFunc (.cons rfl .nil)) ?_
        refine rg_q (q_call en118 (.cons rfl (.cons rfl (.cons rfl .nil))) rfl ((by have hb := changed_p x (fun _ t => t - leastT x) 121 [.pt [.v (.int .i64 (leastT x))] 0] en121 x.ck (by have := hok.n2; omega) (fun i n hi h0 => norm1_p _ _ _ h0 (hok.tk n (List.mem_of_getElem? hi)).2 (by omega) (by omega)); exact hb))) ?_
        refine rg_q (q_extract rfl rfl) ?_
        refine rg_q (q_extract rfl rfl) ?_
        refine rg_nil ?_
        refine aops_store sz33 rfl rfl (by exact .inr ⟨_, rfl⟩) rfl rfl (by decide) rfl ?_
        refine aops_q rfl (q_assign (x := .d (.v _)) rfl) ?_
        refine aops_nil ?_
        change Awp _ _ _ _ _
        refine awp_ret ?_
        refine ⟨_, (.cons (.cellA rfl rfl sz33 rfl) (.cons (.tmp (by exact .d _)) .nil)), ?_⟩
        rw [hz]; rfl
    ·
      exact fun e q h => h.elim

def addF (y : Dly) (i t : Int) : Int := if 0 ≤ tkA y i then t + tkA y i else -1
def addE (x y : Dly) : Int := firstE [(ckLaw x).2, (ckLaw y).2]
def addR (x y : Dly) : Dly × Int := if addE x y ≠ 0 then (⟨0, []⟩, addE x y) else if x.ck ≠ y.ck then (⟨0, []⟩, 23) else if (x.tk.length : Int) ≠ y.tk.length then (⟨0, []⟩, 10) else bltR (chgF x (addF y)) x.ck x.tk.length
theorem addE_ok {x y : Dly} (h : addE x y = 0) : (ckLaw x).2 = 0 ∧ (ckLaw y).2 = 0 := by
  unfold addE at h
  rw [first_zero] at h
  simp only [List.mem_cons, List.not_mem_nil, or_false, forall_eq_or_imp, forall_eq] at h
  exact h
set_option maxRecDepth 100000 in
theorem added1_p (y : Dly) (i : Nat) (t n : Int) (hy : y.tk[i]? = some n) (h1 : 0 ≤ t) (h2 : t ≤ 1000000) (h3 : n ≤ 1000000) : PC Tryz.prog 119 [.v (.int .i64 ((i : Int))), .v (.int .i64 (t)), .pt (dlyC y) 0] (.v (.int .i64 (addF y (i : Int) t))) := by
  have hlt := (List.getElem?_eq_some_iff.1 hy).1
  have ht := tkA_at hy
  refine pc_of_awp Tryz.func119 rfl Tryz.ntmps119 (rs := [.tmp 5]) Tryz.results119 (by simp) fun w0 => ?_
  refine awp_seq ?_
  refine awp_region 1 mixed (by kernel_rfl) ?_
  refine rg_q (q_assign (x := .d (.v _)) rfl) ?_
  refine rg_nil ?_
  refine aops_nil ?_
  change Awp _ _ _ _ _
  refine awp_seq ?_
  refine awp_seq ?_
  refine awp_region 7 mixed (by kernel_rfl) ?_
  refine rg_q (q_fieldAddr fld33_1 rfl) ?_
  refine rg_q (q_load sz31 rfl rfl) ?_
  refine rg_q (q_move (x := .d (.v _)) rfl) ?_
  refine rg_q (q_indexAddr sl31 rfl rfl (by omega) (map_at (by omega) hy)) ?_
  refine rg_q (q_load sz3 rfl rfl) ?_
  refine rg_q (q_call en120 (.cons rfl .nil) rfl (sends_p _)) ?_
  refine rg_q (q_not rfl) ?_
  refine rg_nil ?_
  refine aops_nil ?_
  change Awp _ _ _ _ _
  refine awp_cond rfl (fun hc1 => ?_) (fun hc1 => ?_)
  ·
    (try simp only [decide_eq_true_eq, decide_eq_false_iff_not, Bool.and_eq_true, Bool.or_eq_true, Bool.and_eq_false_iff, Bool.or_eq_false_iff, Bool.not_eq_true', Bool.not_eq_false', Bool.not_true, Bool.not_false, bif_and, bif_or, Bool.not_not, ne_eq, Decidable.not_not, not_true_eq_false, not_false_eq_true, Int.not_le, Int.not_lt] at hc1)
    have hz : addF y (i : Int) t = -1 := by unfold addF; rw [ht, if_neg (by omega)]
    refine awp_seq ?_
    refine awp_region 1 mixed (by kernel_rfl) ?_
    refine rg_q (q_assign (x := .d (.v _)) rfl) ?_
    refine rg_nil ?_
    refine aops_nil ?_
    change Awp _ _ _ _ _
    refine awp_ret ?_
    refine ⟨_, (.cons (.tmp (by exact .d _)) .nil), ?_⟩
    rw [hz]; rfl
  ·
    (try simp only [decide_eq_true_eq, decide_eq_false_iff_not, Bool.and_eq_true, Bool.or_eq_true, Bool.and_eq_false_iff, Bool.or_eq_false_iff, Bool.not_eq_true', Bool.not_eq_false', Bool.not_true, Bool.not_false, bif_and, bif_or, Bool.not_not, ne_eq, Decidable.not_not, not_true_eq_false, not_false_eq_true, Int.not_le, Int.not_lt] at hc1)
    have hz : addF y (i : Int) t = t + n := by unfold addF; rw [ht, if_pos (by omega)]
    refine awp_skip ?_
    change Awp _ _ _ _ _
    refine awp_seq ?_
    refine awp_region 8 mixed (by kernel_rfl) ?_
    refine rg_q (q_move (x := .d (.v _)) rfl) ?_
    refine rg_q (q_fieldAddr fld33_1 rfl) ?_
    refine rg_q (q_load sz31 rfl rfl) ?_
    refine rg_q (q_move (x := .d (.v _)) rfl) ?_
    refine rg_q (q_indexAddr sl31 rfl rfl (by omega) (map_at (by omega) hy)) ?_
    refine rg_q (q_load sz3 rfl rfl) ?_
    refine rg_q (q_add rfl rfl (In64.mk (by omega) (by omega))) ?_
    refine rg_q (q_assign (x := .d (.v _)) rfl) ?_
    refine rg_nil ?_
    refine aops_nil ?_
    change Awp _ _ _ _ _
    refine awp_ret ?_
    refine ⟨_, (.cons (.tmp (by exact .d _)) .nil), ?_⟩
    rw [hz]; rfl
set_option maxRecDepth 100000 in
theorem added_p (x y : Dly) : PC Tryz.prog 63 [.agg (dlyC x), .agg (dlyC y)] (.tup [.agg (dlyC (addR x y).1), .v (.int .i64 ((addR x y).2))]) := by
  refine pc_of_awp Tryz.func63 rfl Tryz.ntmps63 (rs := [.cell 4 33, .tmp 5]) Tryz.results63 (by simp) fun w0 => ?_
  refine awp_seq ?_
  refine awp_region 2 mixed (by kernel_rfl) ?_
  refine rg_q (q_box rfl (by exact .inr ⟨_, rfl⟩)) ?_
  refine rg_q (q_box rfl (by exact .inr ⟨_, rfl⟩)) ?_
  refine rg_nil ?_
  refine aops_alloc zr33 rfl rfl rfl ?_
  refine aops_q rfl (q_assign (x := .d (.v _)) rfl) ?_
  refine aops_nil ?_
  change Awp _ _ _ _ _
  refine awp_seq ?_
  refine awp_seq ?_
  refine awp_region 7 mixed (by kernel_rfl) ?_
  refine rg_q (q_loadA (ds := [_, _]) sz33 rfl rfl rfl) ?_
  refine rg_q (q_call en102 (.cons rfl .nil) rfl (lawErr_p _)) ?_
  refine rg_q (q_loadA (ds := [_, _]) sz33 rfl rfl rfl) ?_
  refine rg_q (q_call en102 (.cons rfl .nil) rfl (lawErr_p _)) ?_
  refine rg_q (q_buildSlice sl178 zr34 rfl rfl (by decide) (.cons rfl (by exact .inl rfl) (.cons rfl (by exact .inl rfl) .nil)) ⟨rfl, rfl, rfl, rfl, trivial⟩ rfl (by decide) rfl) ?_
  refine rg_q (q_call en96 (.cons rfl .nil) rfl (lfirst_p [_, _])) ?_
  refine rg_q (q_assign (x := .d (.v _)) rfl) ?_
  refine rg_nil ?_
  refine aops_nil ?_
  change Awp _ _ _ _ _
  refine awp_block ?_
  refine awp_seq ?_
  refine awp_region 3 mixed (by kernel_rfl) ?_
  refine rg_q (q_move (x := .d (.v _)) rfl) ?_
  refine rg_q (q_neq rfl rfl) ?_
  refine rg_q (q_assign (x := .d (.v _)) rfl) ?_
  refine rg_nil ?_
  refine aops_nil ?_
  change Awp _ _ _ _ _
  refine awp_cond rfl (fun hc2 => ?_) (fun hc2 => ?_)
  ·
    (try simp only [decide_eq_true_eq, decide_eq_false_iff_not, Bool.and_eq_true, Bool.or_eq_true, Bool.and_eq_false_iff, Bool.or_eq_false_iff, Bool.not_eq_true', Bool.not_eq_false', Bool.not_true, Bool.not_false, bif_and, bif_or, Bool.not_not, ne_eq, Decidable.not_not, not_true_eq_false, not_false_eq_true, Int.not_le, Int.not_lt] at hc2)
    have hz : addR x y = (⟨0, []⟩, addE x y) := by unfold addR; rw [if_pos (show addE x y ≠ 0 from hc2)]
    refine awp_seq ?_
    refine awp_region 2 mixed (by kernel_rfl) ?_
    refine rg_q (q_build (cs := [_, _]) pl33 zr33 rfl .nil trivial rfl) ?_
    refine rg_q (q_move (x := .d (.v _)) rfl) ?_
    refine rg_nil ?_
    refine aops_store sz33 rfl rfl (by exact .inr ⟨_, rfl⟩) rfl rfl (by decide) rfl ?_
    refine aops_q rfl (q_assign (x := .d (.v _)) rfl) ?_
    refine aops_nil ?_
    change Awp _ _ _ _ _
    refine Awp.le (le_upB 4 (dlyC ⟨0, []⟩) rfl (.cons (.same _) (.cons (.nil 1) .nil))) ?_
    refine awp_ret ?_
    refine ⟨_, (.cons (.cellA rfl rfl sz33 rfl) (.cons (.tmp (by exact .d _)) .nil)), ?_⟩
    rw [hz]; rfl
  ·
    (try simp only [decide_eq_true_eq, decide_eq_false_iff_not, Bool.and_eq_true, Bool.or_eq_true, Bool.and_eq_false_iff, Bool.or_eq_false_iff, Bool.not_eq_true', Bool.not_eq_false', Bool.not_true, Bool.not_false, bif_and, bif_or, Bool.not_not, ne_eq, Decidable.not_not, not_true_eq_false, not_false_eq_true, Int.not_le, Int.not_lt] at hc2)
    have hz0 : addE x y = 0 := hc2
    obtain ⟨k1, k2⟩ := addE_ok hz0
    have hokx := (ckLaw_ok k1).1
    have hoky := (ckLaw_ok k2).1
    have hn0 : ¬ addE x y ≠ 0 := fun h => h hz0
    refine awp_seq ?_
    refine awp_region 6 mixed (by kernel_rfl) ?_
    refine rg_q (q_fieldAddr fld33_0 rfl) ?_
    refine rg_q (q_load sz3 rfl rfl) ?_
    refine rg_q (q_fieldAddr fld33_0 rfl) ?_
    refine rg_q (q_load sz3 rfl rfl) ?_
    refine rg_q (q_neq rfl rfl) ?_
    refine rg_q (q_assign (x := .d (.v _)) rfl) ?_
    refine rg_nil ?_
    refine aops_nil ?_
    change Awp _ _ _ _ _
    refine awp_cond rfl (fun hc4 => ?_) (fun hc4 => ?_)
    ·
      (try simp only [decide_eq_true_eq, decide_eq_false_iff_not, Bool.and_eq_true, Bool.or_eq_true, Bool.and_eq_false_iff, Bool.or_eq_false_iff, Bool.not_eq_true', Bool.not_eq_false', Bool.not_true, Bool.not_false, bif_and, bif_or, Bool.not_not, ne_eq, Decidable.not_not, not_true_eq_false, not_false_eq_true, Int.not_le, Int.not_lt] at hc4)
      have hz : addR x y = (⟨0, []⟩, 23) := by unfold addR; rw [if_neg hn0, if_pos hc4]
      refine awp_seq ?_
      refine awp_region 1 mixed (by kernel_rfl) ?_
      refine rg_q (q_build (cs := [_, _]) pl33 zr33 rfl .nil trivial rfl) ?_
      refine rg_nil ?_
      refine aops_store sz33 rfl rfl (by exact .inr ⟨_, rfl⟩) rfl rfl (by decide) rfl ?_
      refine aops_q rfl (q_assign (x := .d (.v _)) rfl) ?_
      refine aops_nil ?_
      change Awp _ _ _ _ _
      refine Awp.le (le_upB 4 (dlyC ⟨0, []⟩) rfl (.cons (.same _) (.cons (.nil 1) .nil))) ?_
      refine awp_ret ?_
      refine ⟨_, (.cons (.cellA rfl rfl sz33 rfl) (.cons (.tmp (by exact .d _)) .nil)), ?_⟩
      rw [hz]; rfl
    ·
      (try simp only [decide_eq_true_eq, decide_eq_false_iff_not, Bool.and_eq_true, Bool.or_eq_true, Bool.and_eq_false_iff, Bool.or_eq_false_iff, Bool.not_eq_true', Bool.not_eq_false', Bool.not_true, Bool.not_false, bif_and, bif_or, Bool.not_not, ne_eq, Decidable.not_not, not_true_eq_false, not_false_eq_true, Int.not_le, Int.not_lt] at hc4)
      refine awp_seq ?_
      refine awp_region 8 mixed (by kernel_rfl) ?_
      refine rg_q (q_fieldAddr fld33_1 rfl) ?_
      refine rg_q (q_load sz31 rfl rfl) ?_
      refine rg_q (q_len isl31 rfl (by exact len_map _ _)) ?_
      refine rg_q (q_fieldAddr fld33_1 rfl) ?_
      refine rg_q (q_load sz31 rfl rfl) ?_
      refine rg_q (q_len isl31 rfl (by exact len_map _ _)) ?_
      refine rg_q (q_neq rfl rfl) ?_
      refine rg_q (q_assign (x := .d (.v _)) rfl) ?_
      refine rg_nil ?_
      refine aops_nil ?_
      change Awp _ _ _ _ _
      refine awp_len (t := 27) rfl (fun hl27 => ?_)
      (try simp only [List.length_map] at hl27)
      refine awp_len (t := 30) rfl (fun hl30 => ?_)
      (try simp only [List.length_map] at hl30)
      refine awp_cond rfl (fun hc6 => ?_) (fun hc6 => ?_)
      ·
        (try simp only [decide_eq_true_eq, decide_eq_false_iff_not, Bool.and_eq_true, Bool.or_eq_true, Bool.and_eq_false_iff, Bool.or_eq_false_iff, Bool.not_eq_true', Bool.not_eq_false', Bool.not_true, Bool.not_false, bif_and, bif_or, Bool.not_not, ne_eq, Decidable.not_not, not_true_eq_false, not_false_eq_true, Int.not_le, Int.not_lt] at hc6)
        have hz : addR x y = (⟨0, []⟩, 10) := by unfold addR; rw [if_neg hn0, if_neg (fun h => h hc4), if_pos hc6]
        refine awp_seq ?_
        refine awp_region 1 mixed (by kernel_rfl) ?_
        refine rg_q (q_build (cs := [_, _]) pl33 zr33 rfl .nil trivial rfl) ?_
        refine rg_nil ?_
        refine aops_store sz33 rfl rfl (by exact .inr ⟨_, rfl⟩) rfl rfl (by decide) rfl ?_
        refine aops_q rfl (q_assign (x := .d (.v _)) rfl) ?_
        refine aops_nil ?_
        change Awp _ _ _ _ _
        refine Awp.le (le_upB 4 (dlyC ⟨0, []⟩) rfl (.cons (.same _) (.cons (.nil 1) .nil))) ?_
        refine awp_ret ?_
        refine ⟨_, (.cons (.cellA rfl rfl sz33 rfl) (.cons (.tmp (by exact .d _)) .nil)), ?_⟩
        rw [hz]; rfl
      ·
        (try simp only [decide_eq_true_eq, decide_eq_false_iff_not, Bool.and_eq_true, Bool.or_eq_true, Bool.and_eq_false_iff, Bool.or_eq_false_iff, Bool.not_eq_true', Bool.not_eq_false', Bool.not_true, Bool.not_false, bif_and, bif_or, Bool.not_not, ne_eq, Decidable.not_not, not_true_eq_false, not_false_eq_true, Int.not_le, Int.not_lt] at hc6)
        have hz : addR x y = bltR (chgF x (addF y)) x.ck x.tk.length := by unfold addR; rw [if_neg hn0, if_neg (fun h => h hc4), if_neg (fun h => h hc6)]
        refine awp_skip ?_
        change Awp _ _ _ _ _
        refine awp_seq ?_
        refine awp_region 7 mixed (by kernel_rfl) ?_
        refine rg_q (q_loadA (ds := [_, _]) sz33 rfl rfl rfl) ?_
        refine rg_q (q_fieldAddr fld33_0 rfl) ?_
        refine rg_q (q_load sz3 rfl rfl) ?_
        refine rg_q (q_makeFunc (.cons rfl .nil)) ?_
        refine rg_q (q_call en118 (.cons rfl (.cons rfl (.cons rfl .nil))) rfl ((by have hb := changed_p x (addF y) 119 [.pt (dlyC y) 0] en119 x.ck (by have := hokx.n2; omega) (fun i n hi h0 => (by have hl := (List.getElem?_eq_some_iff.1 hi).1; have hi2 : y.tk[i]? = some (y.tk[i]'(by omega)) := List.getElem?_eq_getElem (by omega); exact added1_p y i n _ hi2 h0 (hokx.tk n (List.mem_of_getElem? hi)).2 (hoky.tk _ (List.mem_of_getElem? hi2)).2)); exact hb))) ?_
        refine rg_q (q_extract rfl rfl) ?_
        refine rg_q (q_extract rfl rfl) ?_
        refine rg_nil ?_
        refine aops_store sz33 rfl rfl (by exact .inr ⟨_, rfl⟩) rfl rfl (by decide) rfl ?_
        refine aops_q rfl (q_assign (x := .d (.v _)) rfl) ?_
        refine aops_nil ?_
        change Awp _ _ _ _ _
        refine awp_ret ?_
        refine ⟨_, (.cons (.cellA rfl rfl sz33 rfl) (.cons (.tmp (by exact .d _)) .nil)), ?_⟩
        rw [hz]; rfl

def rcsE (x : Dly) (c : Int) : Int := firstE [(ckLaw x).2, clkE c]
def rcsR (x : Dly) (c : Int) : Dly × Int := if rcsE x c ≠ 0 then (⟨0, []⟩, rcsE x c) else bltR (chgF x fun _ t => rndL (t * x.ck) c) c x.tk.length
theorem rcsE_ok {x : Dly} {c : Int} (h : rcsE x c = 0) : (ckLaw x).2 = 0 ∧ clkE c = 0 := by
  unfold rcsE at h
  rw [first_zero] at h
  simp only [List.mem_cons, List.not_mem_nil, or_false, forall_eq_or_imp, forall_eq] at h
  exact h
theorem clkE_ok {c : Int} (h : clkE c = 0) : 1 ≤ c ∧ c ≤ 1000000 := by
  unfold clkE at h; split at h
  · rename_i q; simpa [inR] using q
  · cases h
set_option maxRecDepth 100000 in
theorem recast1_p (x : Dly) (c : Int) (i t : Int) (h1 : 0 ≤ t) (h2 : t ≤ 1000000) (h3 : 1 ≤ x.ck) (h4 : x.ck ≤ 1000000) (h5 : 1 ≤ c) (h6 : c ≤ 1000000) : PC Tryz.prog 122 [.v (.int .i64 (i)), .v (.int .i64 (t)), .pt (dlyC x) 0, .pt [.v (.int .i64 (c))] 0] (.v (.int .i64 (rndL (t * x.ck) c))) := by
  have m1 := mulb (a := t) (b := x.ck) (A := 1000000) (B := 1000000) (by omega) (by omega) (by omega) (by omega)
  refine pc_of_awp Tryz.func122 rfl Tryz.ntmps122 (rs := [.tmp 6]) Tryz.results122 (by simp) fun w0 => ?_
  refine awp_seq ?_
  refine awp_region 1 mixed (by kernel_rfl) ?_
  refine rg_q (q_assign (x := .d (.v _)) rfl) ?_
  refine rg_nil ?_
  refine aops_nil ?_
  change Awp _ _ _ _ _
  refine awp_seq ?_
  refine awp_region 7 mixed (by kernel_rfl) ?_
  refine rg_q (q_move (x := .d (.v _)) rfl) ?_
  refine rg_q (q_fieldAddr fld33_0 rfl) ?_
  refine rg_q (q_load sz3 rfl rfl) ?_
  refine rg_q (q_mul rfl rfl (In64.mk (by omega) (by omega))) ?_
  refine rg_q (q_load sz3 rfl rfl) ?_
  refine rg_q (q_call en109 (.cons rfl (.cons rfl .nil)) rfl (lrounded_p _ _ (by omega) (by omega) (by omega) (by omega))) ?_
  refine rg_q (q_assign (x := .d (.v _)) rfl) ?_
  refine rg_nil ?_
  refine aops_nil ?_
  change Awp _ _ _ _ _
  refine awp_ret ?_
  refine ⟨_, (.cons (.tmp (by exact .d _)) .nil), ?_⟩
  rfl
set_option maxRecDepth 100000 in
theorem recast_p (x : Dly) (c : Int) : PC Tryz.prog 69 [.agg (dlyC x), .v (.int .i64 (c))] (.tup [.agg (dlyC (rcsR x c).1), .v (.int .i64 ((rcsR x c).2))]) := by
  refine pc_of_awp Tryz.func69 rfl Tryz.ntmps69 (rs := [.cell 4 33, .tmp 5]) Tryz.results69 (by simp) fun w0 => ?_
  refine awp_seq ?_
  refine awp_region 2 mixed (by kernel_rfl) ?_
  refine rg_q (q_box rfl (by exact .inr ⟨_, rfl⟩)) ?_
  refine rg_q (q_box rfl (by exact .inl rfl)) ?_
  refine rg_nil ?_
  refine aops_alloc zr33 rfl rfl rfl ?_
  refine aops_q rfl (q_assign (x := .d (.v _)) rfl) ?_
  refine aops_nil ?_
  change Awp _ _ _ _ _
  refine awp_seq ?_
  refine awp_seq ?_
  refine awp_region 7 mixed (by kernel_rfl) ?_
  refine rg_q (q_loadA (ds := [_, _]) sz33 rfl rfl rfl) ?_
  refine rg_q (q_call en102 (.cons rfl .nil) rfl (lawErr_p _)) ?_
  refine rg_q (q_load sz3 rfl rfl) ?_
  refine rg_q (q_call en98 (.cons rfl .nil) rfl (clockErr_p _)) ?_
  refine rg_q (q_buildSlice sl178 zr34 rfl rfl (by decide) (.cons rfl (by exact .inl rfl) (.cons rfl (by exact .inl rfl) .nil)) ⟨rfl, rfl, rfl, rfl, trivial⟩ rfl (by decide) rfl) ?_
  refine rg_q (q_call en96 (.cons rfl .nil) rfl (lfirst_p [_, _])) ?_
  refine rg_q (q_assign (x := .d (.v _)) rfl) ?_
  refine rg_nil ?_
  refine aops_nil ?_
  change Awp _ _ _ _ _
  refine awp_seq ?_
  refine awp_region 2 mixed (by kernel_rfl) ?_
  refine rg_q (q_move (x := .d (.v _)) rfl) ?_
  refine rg_q (q_neq rfl rfl) ?_
  refine rg_nil ?_
  refine aops_nil ?_
  change Awp _ _ _ _ _
  refine awp_cond rfl (fun hc2 => ?_) (fun hc2 => ?_)
  ·
    (try simp only [decide_eq_true_eq, decide_eq_false_iff_not, Bool.and_eq_true, Bool.or_eq_true, Bool.and_eq_false_iff, Bool.or_eq_false_iff, Bool.not_eq_true', Bool.not_eq_false', Bool.not_true, Bool.not_false, bif_and, bif_or, Bool.not_not, ne_eq, Decidable.not_not, not_true_eq_false, not_false_eq_true, Int.not_le, Int.not_lt] at hc2)
    have hz : rcsR x c = (⟨0, []⟩, rcsE x c) := by unfold rcsR; rw [if_pos (show rcsE x c ≠ 0 from hc2)]
    refine awp_seq ?_
    refine awp_region 2 mixed (by kernel_rfl) ?_
    refine rg_q (q_build (cs := [_, _]) pl33 zr33 rfl .nil trivial rfl) ?_
    refine rg_q (q_move (x := .d (.v _)) rfl) ?_
    refine rg_nil ?_
    refine aops_store sz33 rfl rfl (by exact .inr ⟨_, rfl⟩) rfl rfl (by decide) rfl ?_
    refine aops_q rfl (q_assign (x := .d (.v _)) rfl) ?_
    refine aops_nil ?_
    change Awp _ _ _ _ _
    refine Awp.le (le_upB 4 (dlyC ⟨0, []⟩) rfl (.cons (.same _) (.cons (.nil 1) .nil))) ?_
    refine awp_ret ?_
    refine ⟨_, (.cons (.cellA rfl rfl sz33 rfl) (.cons (.tmp (by exact .d _)) .nil)), ?_⟩
    rw [hz]; rfl
  ·
    (try simp only [decide_eq_true_eq, decide_eq_false_iff_not, Bool.and_eq_true, Bool.or_eq_true, Bool.and_eq_false_iff, Bool.or_eq_false_iff, Bool.not_eq_true', Bool.not_eq_false', Bool.not_true, Bool.not_false, bif_and, bif_or, Bool.not_not, ne_eq, Decidable.not_not, not_true_eq_false, not_false_eq_true, Int.not_le, Int.not_lt] at hc2)
    have hz0 : rcsE x c = 0 := hc2
    obtain ⟨k1, k2⟩ := rcsE_ok hz0
    have hokx := (ckLaw_ok k1).1
    obtain ⟨c1, c2⟩ := clkE_ok k2
    obtain ⟨o1, o2, _, _, _⟩ := hokx
    have hokx := (ckLaw_ok k1).1
    have hz : rcsR x c = bltR (chgF x fun _ t => rndL (t * x.ck) c) c x.tk.length := by unfold rcsR; rw [if_neg (fun h => h hz0)]
    refine awp_skip ?_
    change Awp _ _ _ _ _
    refine awp_seq ?_
    refine awp_region 6 mixed (by kernel_rfl) ?_
    refine rg_q (q_loadA (ds := [_, _]) sz33 rfl rfl rfl) ?_
    refine rg_q (q_load sz3 rfl rfl) ?_
    refine rg_q (q_makeFunc (.cons rfl (.cons rfl .nil))) ?_
    refine rg_q (q_call en118 (.cons rfl (.cons rfl (.cons rfl .nil))) rfl ((by have hb := changed_p x (fun _ t => rndL (t * x.ck) c) 122 [.pt (dlyC x) 0, .pt [.v (.int .i64 c)] 0] en122 c (by have := hokx.n2; omega) (fun i n hi h0 => recast1_p x c _ n h0 (hokx.tk n (List.mem_of_getElem? hi)).2 o1 o2 c1 c2); exact hb))) ?_
    refine rg_q (q_extract rfl rfl) ?_
    refine rg_q (q_extract rfl rfl) ?_
    refine rg_nil ?_
    refine aops_store sz33 rfl rfl (by exact .inr ⟨_, rfl⟩) rfl rfl (by decide) rfl ?_
    refine aops_q rfl (q_assign (x := .d (.v _)) rfl) ?_
    refine aops_nil ?_
    change Awp _ _ _ _ _
    refine awp_ret ?_
    refine ⟨_, (.cons (.cellA rfl rfl sz33 rfl) (.cons (.tmp (by exact .d _)) .nil)), ?_⟩
    rw [hz]; rfl
end Go.Proofs.YtgeieocphgnipaaGreatDoor.Am.M
