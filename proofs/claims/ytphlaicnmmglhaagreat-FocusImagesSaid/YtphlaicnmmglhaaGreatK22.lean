/- Contracts over the abstract machine: the reference of chapter 4: echoes and traces. Conditions: none. -/
import Derived.Test.YtphlaicnmmglhaaGreatK20
set_option linter.unusedVariables false
set_option linter.unusedSimpArgs false
-- mini
namespace Go.Proofs.YtphlaicnmmglhaaGreat.Am.M
open Go
set_option maxRecDepth 100000 in
theorem rnumber_p (s : Int × Int) (t : Int) (h1 : 0 ≤ s.1) (h2 : s.1 ≤ 1000000000000) (h3 : 1 ≤ s.2) (h4 : s.2 ≤ 100000000) (h5 : 0 ≤ t) (h6 : t ≤ 1000000000000) : PC Tryz.prog 175 [.agg (shC s), .v (.int .i64 (t))] (.v (.int .i64 (rndI (t - s.1) s.2))) := by
 refine pc_of_awp Tryz.func175 rfl Tryz.ntmps175 (rs := [.tmp 4]) Tryz.results175 (by simp) fun w0 => ?_
 refine awp_seq ?_
 refine awp_region 2 mixed (by kernel_rfl) ?_
 refine rg_q (q_box rfl (by exact .inr ⟨_, rfl⟩)) ?_
 refine rg_q (q_assign (x := .d (.v _)) rfl) ?_
 refine rg_nil (aops_nil ?_)
 change Awp _ _ _ _ _
 refine awp_seq ?_
 refine awp_region 8 mixed (by kernel_rfl) ?_
 refine rg_q (q_move (x := .d (.v _)) rfl) (rg_q (q_fieldAddr fld26_0 rfl) (rg_q (q_load sz3 rfl rfl) ?_))
 refine rg_q (q_sub rfl rfl (In64.mk (by omega) (by omega))) ?_
 refine rg_q (q_fieldAddr fld26_1 rfl) (rg_q (q_load sz3 rfl rfl) ?_)
 refine rg_q (q_call en239 (.cons rfl (.cons rfl .nil)) rfl (rrounded4_p _ _ (by omega) (by omega) (by omega) (by omega))) ?_
 refine rg_q (q_assign (x := .d (.v _)) rfl) ?_
 refine rg_nil (aops_nil ?_)
 change Awp _ _ _ _ _
 refine awp_ret ?_
 refine ⟨_, (.cons (.tmp (by exact .d _)) .nil), ?_⟩
 rfl

theorem el_in {a : Arr} (hok : ArrOk a) {i : Int} (h1 : 0 ≤ i) (h2 : i < a.el.length) : (-100000 ≤ (elAt a i).1 ∧ (elAt a i).1 ≤ 100000) ∧ -100000 ≤ (elAt a i).2 ∧ (elAt a i).2 < 0 :=
  hok.el _ (List.mem_of_getElem? (el_at h1 h2))
theorem plate_ok {z t : Int} : plateE z t = 0 ↔ 1 ≤ z ∧ z ≤ t - 1 := by
  unfold plateE; rw [must_zero (by decide)]; simp [inR]
theorem way_of {a : Arr} (hok : ArrOk a) {i : Int} (h1 : 0 ≤ i) (h2 : i < a.el.length) {t : Int × Int} (hs : spotE t = 0) (hp : plateE t.2 a.ou.t = 0) {m : Md} (hm : m.t = a.ou.t) : wayE m (elAt a i) t = 0 := by
  obtain ⟨⟨e1, e2⟩, e3, e4⟩ := el_in hok h1 h2
  have hp2 := plate_ok.1 hp
  unfold wayE
  rw [first_zero]
  intro x hx
  simp only [List.mem_cons, List.not_mem_nil, or_false] at hx
  rcases hx with rfl | rfl | rfl | rfl
  · exact spot_ok.2 (by omega)
  · exact hs
  · rw [must_zero (by decide)]; simpa using e4
  · rw [must_zero (by decide), hm]; simp [inR]; omega
set_option maxRecDepth 100000 in
theorem rechoAt_p (a : Arr) (t p : Int × Int) (hok : ArrOk a) (hpk : (0 ≤ p.1 ∧ p.1 < a.el.length) ∧ 0 ≤ p.2 ∧ p.2 < a.el.length) (hs : spotE t = 0) (hp : plateE t.2 a.ou.t = 0) : PC Tryz.prog 179 [.agg (arrC a), .agg (shC t), .agg (shC p)] (.v (.int .i64 (echI a t p))) := by
 obtain ⟨⟨p1, p2⟩, p3, p4⟩ := hpk
 have hx := el_at p1 p2
 have hy := el_at p3 p4
 have hw1 := way_of hok p1 p2 hs hp (m := a.ou) rfl
 have hw2 := way_of hok p3 p4 hs hp (m := a.ba) hok.th.symm
 have e1 : ((p.1.toNat : Nat) : Int) = p.1 := by omega
 have e2 : ((p.2.toNat : Nat) : Int) = p.2 := by omega
 have r1 := rt_in a.ou (elAt a p.1) t
 have r2 := rt_in a.ba (elAt a p.2) t
 refine pc_of_awpN Tryz.func179 rfl Tryz.ntmps179 (rs := [.tmp 6]) Tryz.results179 (by simp) fun w0 hmine hrnd hpn => ?_
 refine awp_seq ?_
 refine awp_region 4 mixed (by kernel_rfl) ?_
 refine rg_q (q_box rfl (by exact .inr ⟨_, rfl⟩)) ?_
 refine rg_q (q_box rfl (by exact .inr ⟨_, rfl⟩)) ?_
 refine rg_q (q_box rfl (by exact .inr ⟨_, rfl⟩)) ?_
 refine rg_q (q_assign (x := .d (.v _)) rfl) ?_
 refine rg_nil (aops_nil ?_)
 change Awp _ _ _ _ _
 refine awp_seq ?_
 refine awp_region 22 mixed (by kernel_rfl) ?_
 refine rg_q (q_fieldAddr fld28_1 rfl) ?_
 refine rg_q (q_loadA (ds := [_, _, _, _]) sz24 rfl rfl rfl) ?_
 refine rg_q (q_fieldAddr fld28_0 rfl) (rg_q (q_load sz22 rfl rfl) ?_)
 refine rg_q (q_indexAddr_ar ar63 rfl rfl (by omega) (by omega)) ?_
 refine rg_q (q_load sz3 rfl rfl) ?_
 refine rg_q (q_indexAddr sl22 rfl rfl (by omega) (map_at (k := p.1.toNat) (by omega) hx)) ?_
 refine rg_q (q_loadA (ds := [_, _]) sz33 rfl rfl rfl) ?_
 refine rg_q (q_loadA (ds := [_, _]) sz33 rfl rfl rfl) ?_
 refine rg_q (q_call en244 (.cons rfl (.cons rfl (.cons rfl .nil))) rfl (xrounded_p a.ou (elAt a p.1) t hok.ou hw1)) ?_
 refine rg_q (q_fieldAddr fld28_2 rfl) ?_
 refine rg_q (q_loadA (ds := [_, _, _, _]) sz24 rfl rfl rfl) ?_
 refine rg_q (q_fieldAddr fld28_0 rfl) (rg_q (q_load sz22 rfl rfl) ?_)
 refine rg_q (q_indexAddr_ar ar63 rfl rfl (by omega) (by omega)) ?_
 refine rg_q (q_load sz3 rfl rfl) ?_
 refine rg_q (q_indexAddr sl22 rfl rfl (by omega) (map_at (k := p.2.toNat) (by omega) hy)) ?_
 refine rg_q (q_loadA (ds := [_, _]) sz33 rfl rfl rfl) ?_
 refine rg_q (q_loadA (ds := [_, _]) sz33 rfl rfl rfl) ?_
 refine rg_q (q_call en244 (.cons rfl (.cons rfl (.cons rfl .nil))) rfl (xrounded_p a.ba (elAt a p.2) t hok.ba hw2)) ?_
 refine rg_q (q_add rfl rfl (In64.mk (by omega) (by omega))) ?_
 refine rg_q (q_assign (x := .d (.v _)) rfl) ?_
 refine rg_nil (aops_nil ?_)
 change Awp _ _ _ _ _
 refine awp_ret ?_
 refine ⟨_, (.cons (.tmp (by exact .d _)) .nil), ?_⟩
 rfl
set_option maxRecDepth 100000 in
theorem rsampleOf_p (a : Arr) (t p : Int × Int) (hok : ArrOk a) (hpk : (0 ≤ p.1 ∧ p.1 < a.el.length) ∧ 0 ≤ p.2 ∧ p.2 < a.el.length) (hs : spotE t = 0) (hp : plateE t.2 a.ou.t = 0) : PC Tryz.prog 111 [.agg (arrC a), .agg (shC t), .agg (shC p)] (.v (.int .i64 (smpI a t p))) := by
 have he := ech_in a t p
 refine pc_of_awpN Tryz.func111 rfl Tryz.ntmps111 (rs := [.tmp 6]) Tryz.results111 (by simp) fun w0 hmine hrnd hpn => ?_
 refine awp_seq ?_
 refine awp_region 4 mixed (by kernel_rfl) ?_
 refine rg_q (q_box rfl (by exact .inr ⟨_, rfl⟩)) ?_
 refine rg_q (q_box rfl (by exact .inr ⟨_, rfl⟩)) ?_
 refine rg_q (q_box rfl (by exact .inr ⟨_, rfl⟩)) ?_
 refine rg_q (q_assign (x := .d (.v _)) rfl) ?_
 refine rg_nil (aops_nil ?_)
 change Awp _ _ _ _ _
 refine awp_seq ?_
 refine awp_region 8 mixed (by kernel_rfl) ?_
 refine rg_q (q_fieldAddr fld28_3 rfl) ?_
 refine rg_q (q_loadA (ds := [_, _]) sz26 rfl rfl rfl) ?_
 refine rg_q (q_loadA (ds := [_, _, _, _, _, _, _, _, _, _, _]) sz28 rfl rfl rfl) ?_
 refine rg_q (q_loadA (ds := [_, _]) sz33 rfl rfl rfl) ?_
 refine rg_q (q_loadA (ds := [_, _]) sz63 rfl rfl rfl) ?_
 refine rg_q (q_call en179 (.cons rfl (.cons rfl (.cons rfl .nil))) rfl (rechoAt_p a t p hok hpk hs hp)) ?_
 refine rg_q (q_call en175 (.cons rfl (.cons rfl .nil)) rfl (rnumber_p a.ts (echI a t p) hok.t1 hok.t2 hok.t3 hok.t4 (by omega) (by omega))) ?_
 refine rg_q (q_assign (x := .d (.v _)) rfl) ?_
 refine rg_nil (aops_nil ?_)
 change Awp _ _ _ _ _
 refine awp_ret ?_
 refine ⟨_, (.cons (.tmp (by exact .d _)) .nil), ?_⟩
 rfl

def erI (a : Arr) (t p : Int × Int) : Rg := ((ltI a.ou (elAt a p.1) t).1.1 + (ltI a.ba (elAt a p.2) t).1.1, (ltI a.ou (elAt a p.1) t).1.2 + (ltI a.ba (elAt a p.2) t).1.2)
end Go.Proofs.YtphlaicnmmglhaaGreat.Am.M
