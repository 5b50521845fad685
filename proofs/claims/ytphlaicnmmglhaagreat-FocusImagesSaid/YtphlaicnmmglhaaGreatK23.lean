/- Contracts over the abstract machine: BenchTraces, BenchEchoes. Conditions: none. -/
import Derived.Test.YtphlaicnmmglhaaGreatK22
set_option linter.unusedVariables false
set_option linter.unusedSimpArgs false
-- mini
namespace Go.Proofs.YtphlaicnmmglhaaGreat.Am.M
open Go

def echC (m n : Md) (a t b : Int × Int) : List D := mdC m ++ mdC n ++ shC a ++ shC t ++ shC b
set_option maxRecDepth 100000 in
theorem echoTime_p (m n : Md) (a t b : Int × Int) (hm : MdOk m) (hn : MdOk n) (hw1 : wayE m a t = 0) (hw2 : wayE n b t = 0) : PC Tryz.prog 237 [.agg (echC m n a t b)] (.tup [.agg [.v (.int .i64 ((ltI m a t).1.1 + (ltI n b t).1.1)), .v (.int .i64 ((ltI m a t).1.2 + (ltI n b t).1.2))], .v (.int .i64 (0))]) := by
 have hfe : firstE [modeE m, modeE n] = 0 := first_zero.2 (by intro x hx; simp only [List.mem_cons, List.not_mem_nil, or_false] at hx; rcases hx with q | q; (rw [q]; exact mode_ok.2 hm); (rw [q]; exact mode_ok.2 hn))
 have hz1 := (way_law hm hw1).1
 have hz2 := (way_law hn hw2).1
 have hcx1 := (way_law hm hw1).2
 have hcx2 := (way_law hn hw2).2
 have hl1 := lt_is hm hw1
 have hl2 := lt_is hn hw2
 have li1 := least_in hcx1
 have li2 := least_in hcx2
 obtain ⟨a1, a2, a3, a4⟩ := li1
 obtain ⟨b1, b2, b3, b4⟩ := li2
 have f1 : (wayI m a t).2 = 0 := by rw [hz1]
 have f2 : (wayI n b t).2 = 0 := by rw [hz2]
 refine pc_of_awpN Tryz.func237 rfl Tryz.ntmps237 (rs := [.cell 2 56, .tmp 3]) Tryz.results237 (by simp) fun w0 hmine hrnd hpn => ?_
 refine awp_seq ?_
 refine awp_region 1 mixed (by kernel_rfl) ?_
 refine rg_q (q_box rfl (by exact .inr ⟨_, rfl⟩)) ?_
 refine rg_nil ?_
 refine aops_alloc zr56 rfl rfl rfl ?_
 refine aops_q rfl (q_assign (x := .d (.v _)) rfl) ?_
 refine aops_nil ?_
 change Awp _ _ _ _ _
 refine awp_seq ?_
 refine awp_seq ?_
 refine awp_region 9 mixed (by kernel_rfl) ?_
 refine rg_q (q_fieldAddr fld339_0 rfl) ?_
 refine rg_q (q_loadA (ds := [_, _, _, _]) sz24 rfl rfl rfl) ?_
 refine rg_q (q_call en122 (.cons rfl .nil) rfl (checkMode_p m)) ?_
 refine rg_q (q_fieldAddr fld339_1 rfl) ?_
 refine rg_q (q_loadA (ds := [_, _, _, _]) sz24 rfl rfl rfl) ?_
 refine rg_q (q_call en122 (.cons rfl .nil) rfl (checkMode_p n)) ?_
 refine rg_q (q_buildSlice sl282 zr40 rfl rfl (by decide) (.cons rfl (by exact .inl rfl) (.cons rfl (by exact .inl rfl) .nil)) ⟨rfl, rfl, rfl, rfl, trivial⟩ rfl (by decide) rfl) ?_
 refine rg_q (q_call en183 (.cons rfl .nil) rfl (rfirst_p [_, _])) ?_
 refine rg_q (q_assign (x := .d (.v _)) rfl) ?_
 refine rg_nil (aops_nil ?_)
 change Awp _ _ _ _ _
 refine awp_seq ?_
 refine awp_region 2 mixed (by kernel_rfl) ?_
 refine rg_q (q_move (x := .d (.v _)) rfl) (rg_q (q_neq rfl rfl) ?_)
 refine rg_nil (aops_nil ?_)
 change Awp _ _ _ _ _
 refine awp_cond rfl (fun hc2 => ?_) (fun hc2 => ?_)
 ·
  exact absurd hfe (of_decide_eq_true hc2)
 ·
  (try simp only [nb, ne_eq] at hc2)
  refine awp_skip ?_
  change Awp _ _ _ _ _
  refine awp_seq ?_
  refine awp_region 10 mixed (by kernel_rfl) ?_
  refine rg_q (q_fieldAddr fld339_0 rfl) ?_
  refine rg_q (q_loadA (ds := [_, _, _, _]) sz24 rfl rfl rfl) ?_
  refine rg_q (q_fieldAddr fld339_2 rfl) ?_
  refine rg_q (q_loadA (ds := [_, _]) sz33 rfl rfl rfl) ?_
  refine rg_q (q_fieldAddr fld339_3 rfl) ?_
  refine rg_q (q_loadA (ds := [_, _]) sz33 rfl rfl rfl) ?_
  refine rg_q (q_call en268 (.cons rfl (.cons rfl (.cons rfl .nil))) rfl (way_p m a t hm)) ?_
  refine rg_q (q_move (x := .d (.tup _)) rfl) (rg_q (q_extract rfl rfl) (rg_q (q_extract rfl rfl) ?_))
  refine rg_nil ?_
  refine aops_alloc zr366 rfl rfl rfl ?_
  refine aops_store sz366 rfl rfl (by exact .inr ⟨_, rfl⟩) rfl rfl (by decide) rfl ?_
  refine aops_q rfl (q_assign (x := .d (.v _)) rfl) ?_
  refine aops_nil ?_
  change Awp _ _ _ _ _
  refine awp_seq ?_
  refine awp_seq ?_
  refine awp_region 2 mixed (by kernel_rfl) ?_
  refine rg_q (q_move (x := .d (.v _)) rfl) (rg_q (q_neq rfl rfl) ?_)
  refine rg_nil (aops_nil ?_)
  change Awp _ _ _ _ _
  refine awp_cond rfl (fun hc5 => ?_) (fun hc5 => ?_)
  ·
   exact absurd f1 (of_decide_eq_true hc5)
  ·
   (try simp only [nb, ne_eq] at hc5)
   refine awp_skip ?_
   change Awp _ _ _ _ _
   refine awp_seq ?_
   refine awp_region 10 mixed (by kernel_rfl) ?_
   refine rg_q (q_fieldAddr fld339_1 rfl) ?_
   refine rg_q (q_loadA (ds := [_, _, _, _]) sz24 rfl rfl rfl) ?_
   refine rg_q (q_fieldAddr fld339_4 rfl) ?_
   refine rg_q (q_loadA (ds := [_, _]) sz33 rfl rfl rfl) ?_
   refine rg_q (q_fieldAddr fld339_3 rfl) ?_
   refine rg_q (q_loadA (ds := [_, _]) sz33 rfl rfl rfl) ?_
   refine rg_q (q_call en268 (.cons rfl (.cons rfl (.cons rfl .nil))) rfl (way_p n b t hn)) ?_
   refine rg_q (q_move (x := .d (.tup _)) rfl) (rg_q (q_extract rfl rfl) (rg_q (q_extract rfl rfl) ?_))
   refine rg_nil ?_
   refine aops_alloc zr366 rfl rfl rfl ?_
   refine aops_store sz366 rfl rfl (by exact .inr ⟨_, rfl⟩) rfl rfl (by decide) rfl ?_
   refine aops_q rfl (q_assign (x := .d (.v _)) rfl) ?_
   refine aops_nil ?_
   change Awp _ _ _ _ _
   refine awp_seq ?_
   refine awp_seq ?_
   refine awp_region 2 mixed (by kernel_rfl) ?_
   refine rg_q (q_move (x := .d (.v _)) rfl) (rg_q (q_neq rfl rfl) ?_)
   refine rg_nil (aops_nil ?_)
   change Awp _ _ _ _ _
   refine awp_cond rfl (fun hc8 => ?_) (fun hc8 => ?_)
   ·
    exact absurd f2 (of_decide_eq_true hc8)
   ·
    (try simp only [nb, ne_eq] at hc8)
    refine awp_skip ?_
    change Awp _ _ _ _ _
    refine awp_seq ?_
    refine awp_region 5 mixed (by kernel_rfl) ?_
    refine rg_q (q_load_refA (ds := [_, _, _, _, _, _]) sz366 rfl rfl rfl rfl) ?_
    refine rg_q (q_call en270 (.cons rfl .nil) rfl (least_p (wayI m a t).1 hcx1)) ?_
    refine rg_q (q_load_refA (ds := [_, _, _, _, _, _]) sz366 rfl rfl rfl rfl) ?_
    refine rg_q (q_call en270 (.cons rfl .nil) rfl (least_p (wayI n b t).1 hcx2)) ?_
    refine rg_q (q_call en269 (.cons rfl (.cons rfl .nil)) rfl (plus_p (leastI (wayI m a t).1) (leastI (wayI n b t).1) (by omega) (by omega) (by omega) (by omega) (by omega) (by omega) (by omega) (by omega))) ?_
    refine rg_nil ?_
    refine aops_store sz56 rfl rfl (by exact .inr ⟨_, rfl⟩) rfl rfl (by decide) rfl ?_
    refine aops_q rfl (q_assign (x := .d (.v _)) rfl) ?_
    refine aops_nil ?_
    change Awp _ _ _ _ _
    refine awp_ret ?_
    refine ⟨_, (.cons (.cellA rfl rfl sz56 rfl) (.cons (.tmp (by exact .d _)) .nil)), ?_⟩
    rw [hl1, hl2]; rfl

def erR (a : Arr) (t p : Int × Int) : Rg × Int := if opE a t p ≠ 0 then ((0, 0), opE a t p) else (erI a t p, 0)
set_option maxRecDepth 100000 in
theorem echoRange_p (a : Arr) (t p : Int × Int) : PC Tryz.prog 172 [.agg (arrC a), .agg (shC t), .agg (shC p)] (.tup [.agg [.v (.int .i64 (((erR a t p).1).1)), .v (.int .i64 (((erR a t p).1).2))], .v (.int .i64 ((erR a t p).2))]) := by
 refine pc_of_awpN Tryz.func172 rfl Tryz.ntmps172 (rs := [.cell 6 56, .tmp 7]) Tryz.results172 (by simp) fun w0 hmine hrnd hpn => ?_
 refine awp_seq ?_
 refine awp_region 3 mixed (by kernel_rfl) ?_
 refine rg_q (q_box rfl (by exact .inr ⟨_, rfl⟩)) ?_
 refine rg_q (q_box rfl (by exact .inr ⟨_, rfl⟩)) ?_
 refine rg_q (q_box rfl (by exact .inr ⟨_, rfl⟩)) ?_
 refine rg_nil ?_
 refine aops_alloc zr56 rfl rfl rfl ?_
 refine aops_q rfl (q_assign (x := .d (.v _)) rfl) ?_
 refine aops_nil ?_
 change Awp _ _ _ _ _
 refine awp_seq ?_
 refine awp_seq ?_
 refine awp_region 7 mixed (by kernel_rfl) ?_
 refine rg_q (q_loadA (ds := [_, _, _, _, _, _, _, _, _, _, _]) sz28 rfl rfl rfl) ?_
 refine rg_q (q_loadA (ds := [_, _]) sz33 rfl rfl rfl) ?_
 refine rg_q (q_loadA (ds := [_, _]) sz63 rfl rfl rfl) ?_
 refine rg_q (q_call en229 (.cons rfl (.cons rfl (.cons rfl .nil))) rfl (bopen_p _ _ _)) ?_
 refine rg_q (q_move (x := .d (.tup _)) rfl) (rg_q (q_extract rfl rfl) (rg_q (q_extract rfl rfl) ?_))
 refine rg_nil ?_
 refine aops_alloc zr242 rfl rfl rfl ?_
 refine aops_store sz242 rfl rfl (by exact .inr ⟨_, rfl⟩) rfl rfl (by decide) rfl ?_
 refine aops_q rfl (q_assign (x := .d (.v _)) rfl) ?_
 refine aops_nil ?_
 change Awp _ _ _ _ _
 refine awp_seq ?_
 refine awp_region 2 mixed (by kernel_rfl) ?_
 refine rg_q (q_move (x := .d (.v _)) rfl) (rg_q (q_neq rfl rfl) ?_)
 refine rg_nil (aops_nil ?_)
 change Awp _ _ _ _ _
 refine awp_cond rfl (fun hc2 => ?_) (fun hc2 => ?_)
 ·
  (try simp only [nb, ne_eq] at hc2)
  have hz : erR a t p = ((0, 0), opE a t p) := by unfold erR; rw [if_pos hc2]
  refine awp_seq ?_
  refine awp_region 2 mixed (by kernel_rfl) ?_
  refine rg_q (q_build (cs := [_, _]) pl56 zr56 rfl .nil trivial rfl) ?_
  refine rg_q (q_move (x := .d (.v _)) rfl) ?_
  refine rg_nil ?_
  refine aops_store sz56 rfl rfl (by exact .inr ⟨_, rfl⟩) rfl rfl (by decide) rfl ?_
  refine aops_q rfl (q_assign (x := .d (.v _)) rfl) ?_
  refine aops_nil ?_
  change Awp _ _ _ _ _
  refine awp_ret ?_
  refine ⟨_, (.cons (.cellA rfl rfl sz56 rfl) (.cons (.tmp (by exact .d _)) .nil)), ?_⟩
  rw [hz]; rfl
 ·
  (try simp only [nb, ne_eq] at hc2)
  have ho : opE a t p = 0 := by simpa using hc2
  obtain ⟨hok, hpk, hs, hp⟩ := op_ok ho
  have hz : erR a t p = (erI a t p, 0) := by unfold erR; rw [if_neg (by rw [ho]; simp)]
  obtain ⟨⟨p1, p2⟩, p3, p4⟩ := hpk
  have hx := el_at p1 p2
  have hy := el_at p3 p4
  have hw1 := way_of hok p1 p2 hs hp (m := a.ou) rfl
  have hw2 := way_of hok p3 p4 hs hp (m := a.ba) hok.th.symm
  have e1 : ((p.1.toNat : Nat) : Int) = p.1 := by omega
  have e2 : ((p.2.toNat : Nat) : Int) = p.2 := by omega
  refine awp_skip ?_
  change Awp _ _ _ _ _
  refine awp_seq ?_
  refine awp_region 21 mixed (by kernel_rfl) ?_
  refine rg_q (q_fieldAddr fld28_1 rfl) ?_
  refine rg_q (q_loadA (ds := [_, _, _, _]) sz24 rfl rfl rfl) ?_
  refine rg_q (q_fieldAddr fld28_2 rfl) ?_
  refine rg_q (q_loadA (ds := [_, _, _, _]) sz24 rfl rfl rfl) ?_
  refine rg_q (q_fieldAddr fld28_0 rfl) (rg_q (q_load sz22 rfl rfl) ?_)
  refine rg_q (q_indexAddr_ar ar63 rfl rfl (by omega) (by omega)) ?_
  refine rg_q (q_load sz3 rfl rfl) ?_
  refine rg_q (q_indexAddr sl22 rfl rfl (by omega) (map_at (k := p.1.toNat) (by omega) hx)) ?_
  refine rg_q (q_loadA (ds := [_, _]) sz33 rfl rfl rfl) ?_
  refine rg_q (q_loadA (ds := [_, _]) sz33 rfl rfl rfl) ?_
  refine rg_q (q_fieldAddr fld28_0 rfl) (rg_q (q_load sz22 rfl rfl) ?_)
  refine rg_q (q_indexAddr_ar ar63 rfl rfl (by omega) (by omega)) ?_
  refine rg_q (q_load sz3 rfl rfl) ?_
  refine rg_q (q_indexAddr sl22 rfl rfl (by omega) (map_at (k := p.2.toNat) (by omega) hy)) ?_
  refine rg_q (q_loadA (ds := [_, _]) sz33 rfl rfl rfl) ?_
  refine rg_q (q_build pl339 zr339 rfl (.cons rfl (by exact .inr ⟨_, rfl⟩) (.cons rfl (by exact .inr ⟨_, rfl⟩) (.cons rfl (by exact .inr ⟨_, rfl⟩) (.cons rfl (by exact .inr ⟨_, rfl⟩) (.cons rfl (by exact .inr ⟨_, rfl⟩) .nil))))) ⟨⟨rfl, by decide⟩, ⟨rfl, by decide⟩, ⟨rfl, by decide⟩, ⟨rfl, by decide⟩, ⟨rfl, by decide⟩, trivial⟩ rfl) ?_
  refine rg_q (q_call en237 (.cons rfl .nil) rfl (echoTime_p a.ou a.ba (elAt a p.1) t (elAt a p.2) hok.ou hok.ba hw1 hw2)) ?_
  refine rg_q (q_extract rfl rfl) (rg_q (q_extract rfl rfl) ?_)
  refine rg_nil ?_
  refine aops_store sz56 rfl rfl (by exact .inr ⟨_, rfl⟩) rfl rfl (by decide) rfl ?_
  refine aops_q rfl (q_assign (x := .d (.v _)) rfl) ?_
  refine aops_nil ?_
  change Awp _ _ _ _ _
  refine awp_ret ?_
  refine ⟨_, (.cons (.cellA rfl rfl sz56 rfl) (.cons (.tmp (by exact .d _)) .nil)), ?_⟩
  rw [hz]; rfl
end Go.Proofs.YtphlaicnmmglhaaGreat.Am.M
