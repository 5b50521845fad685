/- Contracts over the abstract machine: package law: changed laws. Conditions: none. -/
import Derived.Test.YtgeieocphgnipaaGreatDoorF12
set_option linter.unusedVariables false
set_option linter.unusedSimpArgs false
-- mini
namespace Go.Proofs.YtgeieocphgnipaaGreatDoor.Am.M
open Go

/-- What is built: a law, or ErrLarge. -/
def bltR (f : Int → Int) (c : Int) (n : Nat) : Dly × Int := if (List.range n).all (fun i => decide (f (i : Int) ≤ 1000000)) = true then (⟨c, bltL f n⟩, 0) else (⟨0, []⟩, 8)
theorem bltR_ok {f : Int → Int} {c : Int} {n : Nat} (h : ∀ i : Nat, i < n → f (i : Int) ≤ 1000000) : bltR f c n = (⟨c, bltL f n⟩, 0) := by
  unfold bltR
  rw [if_pos]
  rw [List.all_eq_true]
  intro i hi
  exact decide_eq_true (h i (List.mem_range.1 hi))
theorem bltR_bad {f : Int → Int} {c : Int} {n : Nat} {i : Nat} (hi : i < n) (h : 1000000 < f (i : Int)) : bltR f c n = (⟨0, []⟩, 8) := by
  unfold bltR
  rw [if_neg]
  intro hh
  have := of_decide_eq_true (List.all_eq_true.1 hh i (List.mem_range.2 hi))
  omega
theorem bltR_cases (f : Int → Int) (c : Int) (n : Nat) : ((∀ i : Nat, i < n → f (i : Int) ≤ 1000000) ∧ bltR f c n = (⟨c, bltL f n⟩, 0)) ∨ bltR f c n = (⟨0, []⟩, 8) := by
  unfold bltR
  split
  · rename_i h
    exact .inl ⟨fun i hi => of_decide_eq_true (List.all_eq_true.1 h i (List.mem_range.2 hi)), rfl⟩
  · exact .inr rfl
theorem bltL_len (f : Int → Int) (k : Nat) : (bltL f k).length = k := by unfold bltL; rw [List.length_map, List.length_range]
theorem bltL_congr {f g : Int → Int} {n : Nat} (h : ∀ i : Nat, i < n → f (i : Int) = g (i : Int)) : bltL f n = bltL g n := by
  unfold bltL
  exact List.map_congr_left fun i hi => h i (List.mem_range.1 hi)
theorem bltR_congr {f g : Int → Int} {c : Int} {n : Nat} (h : ∀ i : Nat, i < n → f (i : Int) = g (i : Int)) : bltR f c n = bltR g c n := by
  rcases bltR_cases f c n with ⟨h1, h2⟩ | h1
  · rw [h2, bltR_ok fun i hi => by rw [← h i hi]; exact h1 i hi, bltL_congr h]
  · rcases bltR_cases g c n with ⟨h3, h4⟩ | h3
    · rw [bltR_ok fun i hi => by rw [h i hi]; exact h3 i hi] at h1
      exact absurd (show (0 : Int) = 8 from congrArg Prod.snd h1) (by decide)
    · rw [h1, h3]
def tkA (x : Dly) (i : Int) : Int := x.tk.getD i.toNat 0
theorem tkA_at {x : Dly} {i : Nat} {n : Int} (h : x.tk[i]? = some n) : tkA x (i : Int) = n := by unfold tkA; rw [List.getD_eq_getElem?_getD, Int.toNat_natCast, h]; rfl
/-- Changed ticks: elements that do not send stay so. -/
def chgF (x : Dly) (h : Int → Int → Int) (i : Int) : Int := if 0 ≤ tkA x i then h i (tkA x i) else -1
theorem sz1 : szB Tryz.prog 1 false 1 = true := by kernel_rfl
set_option maxRecDepth 100000 in
theorem builtR_p (f : Int → Int) (g : FuncId) (cap : List D) (hen : enB Tryz.prog g = true) (c : Int) (n : Nat) (hn : n ≤ 1000) (hf : ∀ i : Nat, i < n → PC Tryz.prog g (.v (.int .i64 (i : Int)) :: cap) (.v (.int .i64 (f (i : Int))))) : PC Tryz.prog 107 [.v (.int .i64 (c)), .v (.int .i64 ((n : Int))), .fn (.func g) cap] (.tup [.agg (dlyC (bltR f c n).1), .v (.int .i64 ((bltR f c n).2))]) := by
  refine pc_of_awpN Tryz.func107 rfl Tryz.ntmps107 (rs := [.cell 6 33, .tmp 7]) Tryz.results107 (by simp) fun w0 hmine hrnd hpn => ?_
  refine awp_seq ?_
  refine awp_region 0 mixed (by kernel_rfl) ?_
  refine rg_nil ?_
  refine aops_alloc zr33 rfl rfl rfl ?_
  refine aops_q rfl (q_assign (x := .d (.v _)) rfl) ?_
  refine aops_nil ?_
  change Awp _ _ _ _ _
  refine awp_seq ?_
  refine awp_region 2 mixed (by kernel_rfl) ?_
  refine rg_q (q_move (x := .d (.v _)) rfl) ?_
  refine rg_q (q_build (cs := [_, _]) pl33 zr33 rfl (.cons rfl (by exact .inl rfl) .nil) ⟨⟨rfl, by decide⟩, trivial⟩ rfl) ?_
  refine rg_nil ?_
  refine aops_alloc zr33 rfl rfl rfl ?_
  refine aops_store sz33 rfl rfl (by exact .inr ⟨_, rfl⟩) rfl rfl (by decide) rfl ?_
  refine aops_nil ?_
  change Awp _ _ _ _ _
  refine awp_seq ?_
  refine awp_seq ?_
  refine Awp.le (le_ownB 8 27 1 3 1 rfl rfl rfl) ?_
  refine awp_region 2 mixed (by kernel_rfl) ?_
  refine rg_q (q_move (x := .d (.v _)) rfl) ?_
  refine rg_q (q_move (x := .d (.v _)) rfl) ?_
  refine rg_nil ?_
  refine aops_nil ?_
  change Awp _ _ _ _ _
  refine awp_block ?_
  refine awp_loopH [7, 9, 10, 14, 15, 16, 17, 18, 19, 20, 21, 22, 23, 24, 25, 26, 27, 28, 29] [8, 27] (α := Nat) (fun k => [(14, T.i (k : Int))]) (fun k => [(8, .tbox [.d (.v (.int .i64 c)), .rs 27]), (27, .row 3 1 ((bltL f k).map iC))]) (fun k => k ≤ n ∧ ∀ i : Nat, i < k → f (i : Int) ≤ 1000000) (fun k => n - k) 0 ⟨Nat.zero_le _, fun i hi => absurd hi (Nat.not_lt_zero _)⟩ ?_ ?_
  · exact le_head (ms := [8, 27]) (by repeat (exact Out.refl _)) ⟨(by rfl), trivial⟩ ⟨(by rfl), (by rfl), trivial⟩ rfl rfl rfl rfl
  ·
    intro k ⟨hk, hall⟩
    refine awp_seq ?_
    refine awp_region 1 mixed (by kernel_rfl) ?_
    refine rg_q (q_lss rfl rfl) ?_
    refine rg_nil ?_
    refine aops_nil ?_
    change Awp _ _ _ _ _
    refine awp_seq ?_
    refine awp_cond rfl (fun hc3 => ?_) (fun hc3 => ?_)
    ·
      (try simp only [decide_eq_true_eq, decide_eq_false_iff_not, Bool.and_eq_true, Bool.or_eq_true, Bool.and_eq_false_iff, Bool.or_eq_false_iff, Bool.not_eq_true', Bool.not_eq_false', Bool.not_true, Bool.not_false, bif_and, bif_or, Bool.not_not, ne_eq, Decidable.not_not, not_true_eq_false, not_false_eq_true, Int.not_le, Int.not_lt] at hc3)
      have hlt : k < n := by omega
      have hfx := hf k hlt
      have hsk := bltL_succ f k
      have hln : (bltL f k).length ≤ 1000 := by unfold bltL; rw [List.length_map, List.length_range]; omega
      refine awp_skip ?_
      change Awp _ _ _ _ _
      refine awp_seq ?_
      refine awp_block ?_
      refine awp_seq ?_
      refine awp_region 2 mixed (by kernel_rfl) ?_
      refine rg_q (q_move (x := .d (.v _)) rfl) ?_
      refine rg_q (q_assign (x := .d (.v _)) rfl) ?_
      refine rg_nil ?_
      refine aops_nil ?_
      change Awp _ _ _ _ _
      refine awp_seq ?_
      refine awp_region 4 mixed (by kernel_rfl) ?_
      refine rg_q (q_move (x := .d (.fn _ _)) rfl) ?_
      refine rg_q (q_move (x := .d (.v _)) rfl) ?_
      refine rg_q (q_callC hen rfl (.cons rfl .nil) (hfx)) ?_
      refine rg_q (q_assign (x := .d (.v _)) rfl) ?_
      refine rg_nil ?_
      refine aops_nil ?_
      change Awp _ _ _ _ _
      refine awp_seq ?_
      refine awp_seq ?_
      refine awp_region 2 mixed (by kernel_rfl) ?_
      refine rg_q (q_move (x := .d (.v _)) rfl) ?_
      refine rg_q (q_gtr rfl rfl) ?_
      refine rg_nil ?_
      refine aops_nil ?_
      change Awp _ _ _ _ _
      refine awp_cond rfl (fun hc6 => ?_) (fun hc6 => ?_)
      ·
        (try simp only [decide_eq_true_eq, decide_eq_false_iff_not, Bool.and_eq_true, Bool.or_eq_true, Bool.and_eq_false_iff, Bool.or_eq_false_iff, Bool.not_eq_true', Bool.not_eq_false', Bool.not_true, Bool.not_false, bif_and, bif_or, Bool.not_not, ne_eq, Decidable.not_not, not_true_eq_false, not_false_eq_true, Int.not_le, Int.not_lt] at hc6)
        have hz := bltR_bad (c := c) hlt (by omega)
        refine awp_seq ?_
        refine awp_region 1 mixed (by kernel_rfl) ?_
        refine rg_q (q_build (cs := [_, _]) pl33 zr33 rfl .nil trivial rfl) ?_
        refine rg_nil ?_
        refine aops_store sz33 rfl rfl (by exact .inr ⟨_, rfl⟩) rfl rfl (by decide) rfl ?_
        refine aops_q rfl (q_assign (x := .d (.v _)) rfl) ?_
        refine aops_nil ?_
        change Awp _ _ _ _ _
        refine Awp.le (le_upB 6 (dlyC ⟨0, []⟩) rfl (.cons (.same _) (.cons (.nil 1) .nil))) ?_
        refine awp_ret ?_
        refine ⟨_, (.cons (.cellA rfl rfl sz33 rfl) (.cons (.tmp (by exact .d _)) .nil)), ?_⟩
        rw [hz]; rfl
      ·
        (try simp only [decide_eq_true_eq, decide_eq_false_iff_not, Bool.and_eq_true, Bool.or_eq_true, Bool.and_eq_false_iff, Bool.or_eq_false_iff, Bool.not_eq_true', Bool.not_eq_false', Bool.not_true, Bool.not_false, bif_and, bif_or, Bool.not_not, ne_eq, Decidable.not_not, not_true_eq_false, not_false_eq_true, Int.not_le, Int.not_lt] at hc6)
        have hall2 : ∀ i : Nat, i < k + 1 → f (i : Int) ≤ 1000000 := fun i hi => by
          by_cases e : i = k
          · subst e; omega
          · exact hall i (by omega)
        refine awp_skip ?_
        change Awp _ _ _ _ _
        refine awp_region 4 mixed (by kernel_rfl) ?_
        refine rg_q (q_fieldAddr_ref fld33_1 rfl) ?_
        refine rg_q (q_load_tb (x := .rs _) sz31 rfl rfl rfl) ?_
        refine rg_q (q_move (x := .d (.v _)) rfl) ?_
        refine rg_q (q_buildSlice sl31 zr3 rfl rfl (by decide) (.cons rfl (by exact .inl rfl) .nil) ⟨rfl, rfl, trivial⟩ rfl (by decide) rfl) ?_
        refine rg_nil ?_
        refine aops_append sl31 zr3 by3 rfl (by decide) rfl rfl rfl rfl (by (try simp only [List.length_map, List.length_append, List.length_cons, List.length_nil]); omega) (by (try simp only [List.length_map, List.length_append, List.length_cons, List.length_nil]); omega) rfl rfl ?_
        refine aops_q rfl (q_fieldAddr_ref fld33_1 rfl) ?_
        refine aops_storeT (z := .rs _) sz31 rfl rfl rfl rfl (by simp) rfl ?_
        refine aops_nil ?_
        change Awp _ _ _ _ _
        refine awp_region 2 mixed (by kernel_rfl) ?_
        refine rg_q (q_add rfl rfl (In64.mk (by omega) (by omega))) ?_
        refine rg_q (q_move (x := .d (.v _)) rfl) ?_
        refine rg_nil ?_
        refine aops_nil ?_
        refine ⟨k + 1, ⟨by omega, hall2⟩, by omega, ?_⟩
        exact le_head (ms := [8, 27]) (by repeat (first | exact Out.head rfl rfl | (refine Out.put ?_ rfl) | (refine Out.site ?_ rfl) | (refine Out.killS ?_ rfl))) ⟨(by rfl), trivial⟩ ⟨(by rfl), (by (show Site.row 3 1 (_ ++ [_]) = Site.row 3 1 _; rw [hsk, List.map_append]; rfl)), trivial⟩ rfl rfl rfl rfl
    ·
      (try simp only [decide_eq_true_eq, decide_eq_false_iff_not, Bool.and_eq_true, Bool.or_eq_true, Bool.and_eq_false_iff, Bool.or_eq_false_iff, Bool.not_eq_true', Bool.not_eq_false', Bool.not_true, Bool.not_false, bif_and, bif_or, Bool.not_not, ne_eq, Decidable.not_not, not_true_eq_false, not_false_eq_true, Int.not_le, Int.not_lt] at hc3)
      have hkn : n = k := by omega
      subst hkn
      have hz := bltR_ok (c := c) hall
      refine awp_exit ?_
      change Awp _ _ _ _ _
      refine awp_seq ?_
      refine Awp.le (le_freezeTB 8 27 1 rfl rfl rfl rfl hmine) ?_
      refine Awp.le (le_boxT 8 [.v (.int .i64 c), .sl 1 ((bltL f n).map iC)] rfl rfl (by intro j d h; match j, h with | 0, h => cases h; rfl | 1, h => cases h; rfl)) ?_
      refine awp_region 1 mixed (by kernel_rfl) ?_
      refine rg_q (q_load_refA (ds := [_, _]) sz33 rfl rfl rfl rfl) ?_
      refine rg_nil ?_
      refine aops_store sz33 rfl rfl (by exact .inr ⟨_, rfl⟩) rfl rfl (by decide) rfl ?_
      refine aops_q rfl (q_assign (x := .d (.v _)) rfl) ?_
      refine aops_nil ?_
      change Awp _ _ _ _ _
      refine awp_ret ?_
      refine ⟨_, (.cons (.cellA rfl rfl sz33 rfl) (.cons (.tmp (by exact .d _)) .nil)), ?_⟩
      rw [hz]; rfl
theorem minF_mem : ∀ {l : List Int}, l ≠ [] → minF l ∈ l
  | [], h => absurd rfl h
  | x :: xs, _ => by
    have : ∀ (xs : List Int) (x : Int), xs.foldl min x ∈ x :: xs := by
      intro xs
      induction xs with
      | nil => intro x; exact List.mem_singleton.2 rfl
      | cons y ys ih =>
        intro x
        have h := ih (min x y)
        rcases List.mem_cons.1 h with h | h
        · show ys.foldl min (min x y) ∈ _
          rw [h]
          rcases Int.le_total x y with q | q
          · rw [Int.min_eq_left q]; simp
          · rw [Int.min_eq_right q]; simp
        · exact List.mem_cons_of_mem _ (List.mem_cons_of_mem _ h)
    exact this xs x
def addF (y : Dly) (i t : Int) : Int := if 0 ≤ tkA y i then t + tkA y i else -1
def addE (x y : Dly) : Int := firstE [(ckLaw x).2, (ckLaw y).2]
def addR (x y : Dly) : Dly × Int := if addE x y ≠ 0 then (⟨0, []⟩, addE x y) else if x.ck ≠ y.ck then (⟨0, []⟩, 23) else if (x.tk.length : Int) ≠ y.tk.length then (⟨0, []⟩, 10) else bltR (chgF x (addF y)) x.ck x.tk.length
theorem addE_ok {x y : Dly} (h : addE x y = 0) : (ckLaw x).2 = 0 ∧ (ckLaw y).2 = 0 := by
  unfold addE at h
  rw [first_zero] at h
  simp only [List.mem_cons, List.not_mem_nil, or_false, forall_eq_or_imp, forall_eq] at h
  exact h
end Go.Proofs.YtgeieocphgnipaaGreatDoor.Am.M
