/- Contracts over the abstract machine: chapter 9: right codes; examples. Conditions: none. -/
import Derived.Test.YthpggoophcdgnaaDoorS15
set_option linter.unusedVariables false
set_option linter.unusedSimpArgs false
-- mini
namespace Go.Proofs.YthpggoophcdgnaaDoor.Am.M
open Go

theorem in_law {a b c : Int} (h : inR a b c = true) : a ≤ b ∧ b ≤ c := by
  unfold inR at h
  simpa using h
theorem mk_law {m : Mk} (h : ckMk m = 0) : ∀ k, k < 6 → 0 ≤ m.at k ∧ m.at k ≤ gr k := fun k hk => by
  have := six_all h k hk
  unfold mkE at this
  split at this
  · rename_i q; exact in_law q
  · cases this
theorem gr_le : ∀ k, gr k ≤ 100000 := fun k => by
  unfold gr
  split <;> decide
theorem bx_law {b : Bx} (h : ckBx b = 0) : ∀ k, k < 6 → 0 ≤ (b.at k).1 ∧ (b.at k).1 ≤ (b.at k).2 ∧ (b.at k).2 ≤ 100000 := fun k hk => by
  have := six_all h k hk
  unfold bxE at this
  split at this
  · rename_i q
    simp only [Bool.and_eq_true] at q
    obtain ⟨q1, q2⟩ := q
    have a1 := in_law q1
    have a2 := in_law q2
    have hgr := gr_le k
    split at this
    · omega
    · omega
  · cases this
theorem rw_law {r : Rw} (h : ckRw r = 0) : RwOk r := fun q hq => by
  unfold ckRw at h
  split at h
  · rename_i h1; exact absurd h h1
  · rename_i h1; exact bx_law (Decidable.not_not.1 h1) q hq
theorem ckL_law : ∀ {l : List Rw} {i : Nat}, (ckL i l).2 = 0 → ∀ r ∈ l, ckRw r = 0
  | [], _, _, r, hr => by cases hr
  | x :: l, i, h, r, hr => by
    rw [ckL] at h
    split at h
    · rename_i h1; exact absurd h h1
    · rename_i h1
      rcases List.mem_cons.1 hr with rfl | hr
      · exact Decidable.not_not.1 h1
      · exact ckL_law h r hr
theorem ckL_of : ∀ {l : List Rw} {i : Nat}, (∀ r ∈ l, ckRw r = 0) → ckL i l = (0, 0)
  | [], _, _ => rfl
  | x :: l, i, h => by
    rw [ckL, if_neg (fun q => q (h x (by simp)))]
    exact ckL_of fun r hr => h r (by simp [hr])
theorem ckCd_law {c : Cd} (h : (ckCd c).2 = 0) : isNm c.nm = true ∧ c.ex.length ≤ 10 ∧ c.ro.length ≤ 10 ∧ ∀ r ∈ c.all, ckRw r = 0 := by
  unfold ckCd at h
  split at h
  · cases h
  · rename_i h1
    split at h
    · cases h
    · rename_i h2
      exact ⟨by simpa using h1, by omega, by omega, ckL_law h⟩
theorem ckCd_of {c : Cd} (h1 : isNm c.nm = true) (h2 : c.ex.length ≤ 10) (h3 : c.ro.length ≤ 10) (h4 : ∀ r ∈ c.all, ckRw r = 0) : (ckCd c).2 = 0 := by
  unfold ckCd
  rw [if_neg (by rw [h1]; decide), if_neg (by omega), ckL_of h4]
theorem cd_ok {c : Cd} (h : (ckCd c).2 = 0) (hn : c.nm.size ≤ 1000) (h7 : c.ex.length + c.ro.length ≤ 7) : CdOk c := by
  obtain ⟨_, a1, a2, a3⟩ := ckCd_law h
  exact ⟨by omega, by omega, hn, by unfold Cd.all; rw [List.length_append]; exact h7, h, fun r hr => rw_law (a3 r hr)⟩
def exM : Mk := ⟨1, 1000, 100, 150, 500, 60⟩
def exW : Wi := ⟨⟨1, 1000, 100, 250, 500, 60⟩, 1, 1, 10⟩
theorem ex_cd : CdOk strC := cd_ok (by decide +kernel) (by decide) (by decide)
theorem ex_dec : dcd strC exM = (0, 1, 0) := by decide +kernel
theorem ex_wi : WiOk exW := ⟨fun q hq => by rcases lt6 hq with rfl | rfl | rfl | rfl | rfl | rfl <;> decide, fun i hi => by rcases lt3 hi with rfl | rfl | rfl <;> decide⟩
theorem ex_lc : (lc strC exW).2 = (160, 0) ∧ mkL (lc strC exW).1 = [1, 1000, 100, 200, 500, 49] := by decide +kernel
theorem ex_mk : mkC (lc strC exW).1 = [iv 1, iv 1000, iv 100, iv 200, iv 500, iv 49] := by
  have h := ex_lc.2
  simp only [mkL, List.cons.injEq, and_true] at h
  obtain ⟨h0, h1, h2, h3, h4, h5⟩ := h
  simp only [mkC, h0, h1, h2, h3, h4, h5]
set_option maxRecDepth 100000 in
theorem coded_p  : PCG Tryd.prog GB 4 [] (.v (.bool (true))) := by
  refine pcg_of_awpO gb_low Tryd.func4 rfl Tryd.ntmps4 (rs := [.tmp 0]) Tryd.results4 (by simp) fun w0 hmine hrnd hpn hGB hNG => ?_
  have hG : ∀ w, ExtM w0 w → GW w := fun w h => (hGB w h).1
  refine awp_seq ?_
  refine awp_region 1 mixed (by kernel_rfl) ?_
  refine rg_q (q_assign (x := .d (.v _)) rfl) ?_
  refine rg_nil ?_
  refine aops_nil ?_
  change Awp _ _ _ _ _
  refine awp_seq ?_
  refine awp_region 10 mixed (by kernel_rfl) ?_
  refine rg_q (q_call en16 .nil rfl (strict_p)) ?_
  refine rg_q (q_buildA (cs := [_, _, _, _, _, _]) ar27 zr27 rfl (.cons rfl (by exact .inl rfl) (.cons rfl (by exact .inl rfl) (.cons rfl (by exact .inl rfl) (.cons rfl (by exact .inl rfl) (.cons rfl (by exact .inl rfl) (.cons rfl (by exact .inl rfl) .nil)))))) ⟨⟨rfl, by decide⟩, ⟨rfl, by decide⟩, ⟨rfl, by decide⟩, ⟨rfl, by decide⟩, ⟨rfl, by decide⟩, ⟨rfl, by decide⟩, trivial⟩ rfl) ?_
  refine rg_q (q_callG en12 (.cons rfl (.cons rfl .nil)) rfl hG (decide_p strC ex_cd.ex ex_cd.ro ex_cd.nm exM (by decide) ex_cd.e (by decide +kernel))) ?_
  refine rg_q (q_move (x := .d (.tup _)) rfl) ?_
  refine rg_q (q_extract rfl rfl) ?_
  refine rg_q (q_extract rfl rfl) ?_
  refine rg_q (q_extract rfl rfl) ?_
  refine rg_q (q_assign (x := .d (.v _)) rfl) ?_
  refine rg_q (q_assign (x := .d (.v _)) rfl) ?_
  refine rg_q (q_assign (x := .d (.v _)) rfl) ?_
  refine rg_nil ?_
  refine aops_nil ?_
  change Awp _ _ _ _ _
  refine awp_seq ?_
  rw [ex_dec]
  refine awp_region 9 mixed (by kernel_rfl) ?_
  refine rg_q (q_call en16 .nil rfl (strict_p)) ?_
  refine rg_q (q_buildA (cs := [_, _, _, _, _, _]) ar27 zr27 rfl (.cons rfl (by exact .inl rfl) (.cons rfl (by exact .inl rfl) (.cons rfl (by exact .inl rfl) (.cons rfl (by exact .inl rfl) (.cons rfl (by exact .inl rfl) (.cons rfl (by exact .inl rfl) .nil)))))) ⟨⟨rfl, by decide⟩, ⟨rfl, by decide⟩, ⟨rfl, by decide⟩, ⟨rfl, by decide⟩, ⟨rfl, by decide⟩, ⟨rfl, by decide⟩, trivial⟩ rfl) ?_
  refine rg_q (q_buildA (cs := [_, _, _]) ar28 zr28 rfl (.cons rfl (by exact .inl rfl) (.cons rfl (by exact .inl rfl) (.cons rfl (by exact .inl rfl) .nil))) ⟨⟨rfl, by decide⟩, ⟨rfl, by decide⟩, ⟨rfl, by decide⟩, trivial⟩ rfl) ?_
  refine rg_q (q_build (cs := [_, _, _, _, _, _, _, _, _]) pl30 zr30 rfl (.cons rfl (by exact .inr ⟨_, rfl⟩) (.cons rfl (by exact .inr ⟨_, rfl⟩) .nil)) ⟨⟨rfl, by decide⟩, ⟨rfl, by decide⟩, trivial⟩ rfl) ?_
  refine rg_q (q_callG en15 (.cons rfl (.cons rfl .nil)) rfl hGB (leastChange_p strC ex_cd exW ex_wi (by decide +kernel))) ?_
  refine rg_q (q_move (x := .d (.tup _)) rfl) ?_
  refine rg_q (q_extract rfl rfl) ?_
  refine rg_q (q_extract rfl rfl) ?_
  refine rg_q (q_extract rfl rfl) ?_
  refine rg_nil ?_
  refine aops_allocD zr27 rfl sz27 rfl rfl (by exact .inr ⟨_, rfl⟩) rfl rfl ?_
  refine aops_q rfl (q_assign (x := .d (.v _)) rfl) ?_
  refine aops_q rfl (q_assign (x := .d (.v _)) rfl) ?_
  refine aops_nil ?_
  change Awp _ _ _ _ _
  refine awp_seq ?_
  rw [ex_mk, ex_lc.1]
  refine awp_region 24 mixed (by kernel_rfl) ?_
  refine rg_q (q_move (x := .d (.v _)) rfl) ?_
  refine rg_q (q_eql rfl rfl) ?_
  refine rg_q (q_move (x := .d (.v _)) rfl) ?_
  refine rg_g rfl rfl (fun hG => (q_move (x := .d (.v _)) rfl)) ?_
  refine rg_g rfl rfl (fun hG => (q_eql rfl rfl)) ?_
  refine rg_pick rfl rfl rfl rfl rfl rfl ?_
  refine rg_q (q_move (x := .d (.v _)) rfl) ?_
  refine rg_g rfl rfl (fun hG => (q_move (x := .d (.v _)) rfl)) ?_
  refine rg_g rfl rfl (fun hG => (q_eql rfl rfl)) ?_
  refine rg_pick rfl rfl rfl rfl rfl rfl ?_
  refine rg_q (q_move (x := .d (.v _)) rfl) ?_
  refine rg_g rfl rfl (fun hG => (q_move (x := .d (.v _)) rfl)) ?_
  refine rg_g rfl rfl (fun hG => (q_eql rfl rfl)) ?_
  refine rg_pick rfl rfl rfl rfl rfl rfl ?_
  refine rg_q (q_move (x := .d (.v _)) rfl) ?_
  refine rg_g rfl rfl (fun hG => (q_move (x := .d (.v _)) rfl)) ?_
  refine rg_g rfl rfl (fun hG => (q_eql rfl rfl)) ?_
  refine rg_pick rfl rfl rfl rfl rfl rfl ?_
  refine rg_q (q_move (x := .d (.v _)) rfl) ?_
  refine rg_g rfl rfl (fun hG => (q_loadA (ds := [_, _, _, _, _, _]) sz27 rfl rfl rfl)) ?_
  refine rg_g rfl rfl (fun hG => (q_buildA (cs := [_, _, _, _, _, _]) ar27 zr27 rfl (.cons rfl (by exact .inl rfl) (.cons rfl (by exact .inl rfl) (.cons rfl (by exact .inl rfl) (.cons rfl (by exact .inl rfl) (.cons rfl (by exact .inl rfl) (.cons rfl (by exact .inl rfl) .nil)))))) ⟨⟨rfl, by decide⟩, ⟨rfl, by decide⟩, ⟨rfl, by decide⟩, ⟨rfl, by decide⟩, ⟨rfl, by decide⟩, ⟨rfl, by decide⟩, trivial⟩ rfl)) ?_
  refine rg_g rfl rfl (fun hG => (q_eqlI (xs := [_, _, _, _, _, _]) (ys := [_, _, _, _, _, _]) eqi27 rfl rfl rfl rfl)) ?_
  refine rg_pick rfl rfl rfl rfl rfl rfl ?_
  refine rg_q (q_assign (x := .d (.v _)) rfl) ?_
  refine rg_nil ?_
  refine aops_nil ?_
  change Awp _ _ _ _ _
  refine awp_ret ?_
  refine ⟨_, (.cons (.tmp (by exact .d _)) .nil), ?_⟩
  rfl
end Go.Proofs.YthpggoophcdgnaaDoor.Am.M
