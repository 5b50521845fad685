/- Contracts over the abstract machine: shifts: plain laws, LawShifts. Conditions: none. -/
import Derived.Test.YtgeieocphgnipaaGreatDoorG11
set_option linter.unusedVariables false
set_option linter.unusedSimpArgs false
-- mini
namespace Go.Proofs.YtgeieocphgnipaaGreatDoor.Am.M
open Go

/-- A law whose ticks are shifted. -/
def shf (x : Dly) (d : Int) : Dly := ⟨x.ck, x.tk.map fun t => if 0 ≤ t then t + d else -1⟩
theorem shf_len (x : Dly) (d : Int) : (shf x d).tk.length = x.tk.length := List.length_map _
theorem shf_at {x : Dly} {d : Int} {i : Nat} {n : Int} (h : x.tk[i]? = some n) : (shf x d).tk[i]? = some (if 0 ≤ n then n + d else -1) := by unfold shf; rw [List.getElem?_map, h]; rfl
theorem shf_ok {x : Dly} {d : Int} (h : (ckLaw x).2 = 0) (hd : ∀ t ∈ x.tk, 0 ≤ t → 0 ≤ t + d ∧ t + d ≤ 1000000) : (ckLaw (shf x d)).2 = 0 := by
  have hok := (ckLaw_ok h).1
  have h0 : dlyE0 (shf x d) = dlyE0 x := by unfold dlyE0; rw [shf_len]; rfl
  have hx : dlyE0 x = 0 := by
    unfold ckLaw at h
    by_cases q : dlyE0 x ≠ 0
    · rw [if_pos q] at h; exact absurd h q
    · exact Decidable.not_not.1 q
  unfold ckLaw
  rw [h0, if_neg (fun q => q hx), ckTk_zero]
  intro n hn
  obtain ⟨m, hm, rfl⟩ := List.mem_map.1 hn
  by_cases q : 0 ≤ m
  · rw [if_pos q]; have := hd m hm q; omega
  · rw [if_neg q]; omega
theorem shf_to {x : Dly} {d : Int} (hd : ∀ t ∈ x.tk, 0 ≤ t → 0 ≤ t + d ∧ t + d ≤ 1000000) : ∀ {k : Nat}, k ≤ x.tk.length → sndTo (shf x d).tk k = (sndTo x.tk k).map fun p => (p.1, p.2 + d)
  | 0, _ => rfl
  | k + 1, hk => by
    have hx := List.getElem?_eq_getElem (l := x.tk) (i := k) (by omega)
    have hw := shf_at (d := d) hx
    have hm := hd _ (List.mem_of_getElem? hx)
    generalize x.tk[k] = n at *
    have ih := shf_to hd (k := k) (by omega)
    by_cases hn : 0 ≤ n
    · rw [if_pos hn] at hw
      rw [sndTo_yes hw (hm hn).1, sndTo_yes hx hn, ih, List.map_append]; rfl
    · rw [if_neg hn] at hw
      rw [sndTo_no hw (by omega), sndTo_no hx hn, ih]
theorem shf_snd {x : Dly} {d : Int} (hd : ∀ t ∈ x.tk, 0 ≤ t → 0 ≤ t + d ∧ t + d ≤ 1000000) : sndL (shf x d) = (sndL x).map fun p => (p.1, p.2 + d) := by
  unfold sndL
  rw [shf_len]
  exact shf_to hd (Nat.le_refl _)
theorem minF_add (c : Int) : ∀ {l : List Int}, l ≠ [] → minF (l.map (· + c)) = minF l + c
  | [], h => absurd rfl h
  | x :: xs, _ => by
    have : ∀ (ys : List Int) (z : Int), (ys.map (· + c)).foldl min (z + c) = ys.foldl min z + c := by
      intro ys
      induction ys with
      | nil => intro z; rfl
      | cons y ys ih =>
        intro z
        show (ys.map (· + c)).foldl min (min (z + c) (y + c)) = ys.foldl min (min z y) + c
        rw [show min (z + c) (y + c) = min z y + c by omega]
        exact ih _
    exact this xs x
theorem maxF_add (c : Int) : ∀ {l : List Int}, l ≠ [] → maxF (l.map (· + c)) = maxF l + c
  | [], h => absurd rfl h
  | x :: xs, _ => by
    have : ∀ (ys : List Int) (z : Int), (ys.map (· + c)).foldl max (z + c) = ys.foldl max z + c := by
      intro ys
      induction ys with
      | nil => intro z; rfl
      | cons y ys ih =>
        intro z
        show (ys.map (· + c)).foldl max (max (z + c) (y + c)) = ys.foldl max (max z y) + c
        rw [show max (z + c) (y + c) = max z y + c by omega]
        exact ih _
    exact this xs x
theorem sprL_add (c : Int) (l : List (Int × Int)) : sprL (l.map fun r => (r.1 + c, r.2 + c)) = sprL l := by
  cases l with
  | nil => rfl
  | cons r rs =>
    have h1 : los ((r :: rs).map fun r => (r.1 + c, r.2 + c)) = (los (r :: rs)).map (· + c) := by unfold los; rw [List.map_map, List.map_map]; rfl
    have h2 : his ((r :: rs).map fun r => (r.1 + c, r.2 + c)) = (his (r :: rs)).map (· + c) := by unfold his; rw [List.map_map, List.map_map]; rfl
    have n1 : los (r :: rs) ≠ [] := by simp [los]
    have n2 : his (r :: rs) ≠ [] := by simp [his]
    unfold sprL
    rw [if_neg (by simp), if_neg (by simp)]
    unfold sprI
    rw [h1, h2, minF_add c n1, minF_add c n2, maxF_add c n1, maxF_add c n2]
    have e1 : maxF (los (r :: rs)) + c - (minF (his (r :: rs)) + c) = maxF (los (r :: rs)) - minF (his (r :: rs)) := by omega
    have e2 : maxF (his (r :: rs)) + c - (minF (los (r :: rs)) + c) = maxF (his (r :: rs)) - minF (los (r :: rs)) := by omega
    rw [e1, e2]
theorem shf_arr {a : Lar} {x : Dly} {d : Int} {p : Int × Int} (hd : ∀ t ∈ x.tk, 0 ≤ t → 0 ≤ t + d ∧ t + d ≤ 1000000) : arrL a (shf x d) p = (arrL a x p).map fun r => (r.1 + d * x.ck, r.2 + d * x.ck) := by
  unfold arrL
  rw [shf_snd hd, List.map_map, List.map_map]
  refine List.map_congr_left fun y _ => ?_
  have e : (y.2 + d) * x.ck = y.2 * x.ck + d * x.ck := Int.add_mul _ _ _
  show ((_ : Int) + (y.2 + d) * x.ck, (_ : Int) + (y.2 + d) * x.ck) = (_ + y.2 * x.ck + d * x.ck, _ + y.2 * x.ck + d * x.ck)
  rw [e, Int.add_assoc, Int.add_assoc]
theorem sprR_bad {a : Lar} {x : Dly} {p : Int × Int} (h : (sprR a x p).2 ≠ 0) : (sprR a x p).1 = (0, 0) := by
  unfold sprR at h ⊢
  by_cases h1 : arvE a x p ≠ 0
  · rw [if_pos h1]
  · rw [if_neg h1] at h ⊢
    unfold sprL at h ⊢
    split
    · rfl
    · rename_i q; rw [if_neg q] at h; exact absurd rfl h
theorem sprR_ok {a : Lar} {x : Dly} {p : Int × Int} (h : (sprR a x p).2 = 0) : opnE a x = 0 ∧ plcE a p = 0 ∧ (sndL x).length ≠ 0 ∧ sprR a x p = sprL (arrL a x p) := by
  unfold sprR at h ⊢
  by_cases h1 : arvE a x p ≠ 0
  · rw [if_pos h1] at h; exact absurd h h1
  · rw [if_neg h1] at h ⊢
    have h2 := Decidable.not_not.1 h1
    unfold arvE at h2
    by_cases ho : opnE a x ≠ 0
    · rw [if_pos ho] at h2; exact absurd h2 ho
    · rw [if_neg ho] at h2
      refine ⟨Decidable.not_not.1 ho, h2, fun q => ?_, rfl⟩
      unfold sprL at h
      rw [if_pos (by unfold arrL; rw [List.length_map]; exact q)] at h
      simp at h
theorem sprR_is {a : Lar} {x : Dly} {p : Int × Int} (h1 : opnE a x = 0) (h2 : plcE a p = 0) : sprR a x p = sprL (arrL a x p) := by
  unfold sprR
  rw [if_neg]
  unfold arvE
  rw [if_neg (fun q => q h1)]
  exact fun q => q h2
theorem opn_of {a : Lar} {x : Dly} (h1 : (ckLar a).2 = 0) (h2 : (ckLaw x).2 = 0) (h3 : x.tk.length = a.el.length) : opnE a x = 0 := by
  unfold opnE
  rw [h1, h2, if_neg (by decide), if_neg (by rw [h3]; simp)]
theorem shf_spr {a : Lar} {x : Dly} {d : Int} {p : Int × Int} (h : (sprR a x p).2 = 0) (hd : ∀ t ∈ x.tk, 0 ≤ t → 0 ≤ t + d ∧ t + d ≤ 1000000) : sprR a (shf x d) p = sprR a x p := by
  obtain ⟨h1, h2, _, h4⟩ := sprR_ok h
  obtain ⟨k1, k2, k3⟩ := lop_ok h1
  rw [h4, sprR_is (opn_of k1 (shf_ok k2 hd) (by rw [shf_len]; exact k3)) h2, shf_arr hd, sprL_add]
theorem shf_least {x : Dly} {d : Int} (hn : (sndL x).length ≠ 0) (hd : ∀ t ∈ x.tk, 0 ≤ t → 0 ≤ t + d ∧ t + d ≤ 1000000) : leastT (shf x d) = leastT x + d := by
  unfold leastT
  rw [shf_snd hd, List.map_map]
  have : (sndL x).map (fun p => p.2) ≠ [] := fun e => hn (by have := congrArg List.length e; simpa using this)
  rw [← minF_add d this, List.map_map]
  rfl
theorem nrm_shf {x : Dly} (hok : DlyOk x) (h0 : (ckLaw x).2 = 0) (hn : (sndL x).length ≠ 0) : nrmR x = (shf x (-leastT x), 0) ∧ ∀ t ∈ x.tk, 0 ≤ t → 0 ≤ t + -leastT x ∧ t + -leastT x ≤ 1000000 := by
  obtain ⟨_, l1, l2⟩ := mnF_some hok hn
  refine ⟨nrm_eq hok h0 hn, fun t ht h => ?_⟩
  have hm : leastT x ≤ t := by
    unfold leastT
    refine minF_le ?_
    obtain ⟨i, hi⟩ := List.getElem?_of_mem ht
    have hlt := (List.getElem?_eq_some_iff.1 hi).1
    have h1 := sndTo_yes hi h
    have h2 : ((i : Int), t) ∈ sndTo x.tk x.tk.length := (sndTo_pre (show i + 1 ≤ x.tk.length by omega)).subset (by rw [h1]; simp)
    exact List.mem_map.2 ⟨_, h2, rfl⟩
  have := (hok.tk t ht).2
  omega
theorem nrm_again {x : Dly} (hok : DlyOk x) (h0 : (ckLaw x).2 = 0) (hn : (sndL x).length ≠ 0) : nrmR (shf x (-leastT x)) = (shf x (-leastT x), 0) := by
  obtain ⟨_, hd⟩ := nrm_shf hok h0 hn
  have k0 := shf_ok h0 hd
  have kn : (sndL (shf x (-leastT x))).length ≠ 0 := by rw [shf_snd hd, List.length_map]; exact hn
  have kl : leastT (shf x (-leastT x)) = 0 := by rw [shf_least hn hd]; omega
  rw [nrm_eq (ckLaw_ok k0).1 k0 kn]
  have e : (shf x (-leastT x)).tk.map (nrmT (shf x (-leastT x))) = (shf x (-leastT x)).tk := by
    refine (List.map_congr_left (g := id) fun t ht => ?_).trans (List.map_id _)
    unfold nrmT
    rw [kl]
    have := ((ckLaw_ok k0).1.tk t ht).1
    split
    · exact Int.sub_zero t
    · show (-1 : Int) = t; omega
  rw [e]
/-- As many equal ticks as the law has. -/
def eqL (x : Dly) (b : Int) : Dly := ⟨x.ck, bltL (fun _ => b) x.tk.length⟩
theorem eqL_ok {x : Dly} {b : Int} (h : (ckLaw x).2 = 0) (h0 : 0 ≤ b) (h1 : b ≤ 100000) : (ckLaw (eqL x b)).2 = 0 := by
  have hok := (ckLaw_ok h).1
  have e0 : dlyE0 (eqL x b) = dlyE0 x := by unfold dlyE0 eqL; simp only [bltL_len]
  have hx : dlyE0 x = 0 := by
    unfold ckLaw at h
    by_cases q : dlyE0 x ≠ 0
    · rw [if_pos q] at h; exact absurd h q
    · exact Decidable.not_not.1 q
  unfold ckLaw
  rw [e0, if_neg (fun q => q hx), ckTk_zero]
  intro n hn
  obtain ⟨i, _, rfl⟩ := List.mem_map.1 hn
  show -1 ≤ b ∧ b ≤ 1000000
  omega
theorem add_eq {x : Dly} {b : Int} (h : (ckLaw x).2 = 0) (h0 : 0 ≤ b) (h1 : b ≤ 100000) : (addR x (eqL x b) = (shf x b, 0) ∧ ∀ t ∈ x.tk, 0 ≤ t → 0 ≤ t + b ∧ t + b ≤ 1000000) ∨ (addR x (eqL x b)).2 = 8 := by
  have hok := (ckLaw_ok h).1
  have e0 : addE x (eqL x b) = 0 := by unfold addE; rw [h, eqL_ok h h0 h1]; rfl
  have el : (x.tk.length : Int) = (eqL x b).tk.length := by unfold eqL; simp only [bltL_len]
  have e1 : addR x (eqL x b) = bltR (chgF x (addF (eqL x b))) x.ck x.tk.length := by
    unfold addR
    rw [if_neg (fun q => q e0), if_neg (show ¬ x.ck ≠ (eqL x b).ck from fun q => q rfl), if_neg (fun q => q el)]
  have hc : ∀ i : Nat, i < x.tk.length → chgF x (addF (eqL x b)) (i : Int) = chgF x (fun _ t => t + b) (i : Int) := fun i hi => by
    have hx := List.getElem?_eq_getElem hi
    have hy : (eqL x b).tk[i]? = some b := bltL_at (f := fun _ => b) hi
    rw [addF_at hx hy]
    unfold chgF
    rw [tkA_at hx, if_pos h0]
  rw [bltR_congr hc] at e1
  rcases bltR_cases (chgF x fun _ t => t + b) x.ck x.tk.length with ⟨k1, k2⟩ | k
  · left
    rw [e1, k2, blt_map x fun t => t + b]
    refine ⟨rfl, fun t ht q => ?_⟩
    obtain ⟨i, hi⟩ := List.getElem?_of_mem ht
    have := k1 i (List.getElem?_eq_some_iff.1 hi).1
    unfold chgF at this
    rw [tkA_at hi, if_pos q] at this
    have this2 : t + b ≤ 1000000 := this
    omega
  · right; rw [e1, k]
set_option maxRecDepth 100000 in
theorem lawShifts_p (a : Lar) (x : Dly) (b : Int) (p : Int × Int) : PCG Tryz.prog GW 14 [.agg (larC a), .agg (dlyC x), .agg [.v (.int .i64 (b)), .v (.int .i64 p.1), .v (.int .i64 p.2)]] (.v (.bool (true))) := by
  refine pcg_of_awpN gw_keep Tryz.func14 rfl Tryz.ntmps14 (rs := [.tmp 6]) Tryz.results14 (by simp) fun w0 hmine hrnd hpn hG => ?_
  refine awp_seq ?_
  refine awp_region 4 mixed (by kernel_rfl) ?_
  refine rg_q (q_box rfl (by exact .inr ⟨_, rfl⟩)) ?_
  refine rg_q (q_box rfl (by exact .inr ⟨_, rfl⟩)) ?_
  refine rg_q (q_box rfl (by exact .inr ⟨_, rfl⟩)) ?_
  refine rg_q (q_assign (x := .d (.v _)) rfl) ?_
  refine rg_nil ?_
  refine aops_nil ?_
  change Awp _ _ _ _ _
  refine awp_seq ?_
  refine awp_seq ?_
  refine awp_region 2 mixed (by kernel_rfl) ?_
  refine rg_q (q_callG en17 .nil rfl hG (awake_p)) ?_
  refine rg_q (q_not rfl) ?_
  refine rg_nil ?_
  refine aops_nil ?_
  change Awp _ _ _ _ _
  refine awp_cond rfl (fun hc1 => ?_) (fun hc1 => ?_)
  ·
    simp at hc1
  ·
    (try simp only [decide_eq_true_eq, decide_eq_false_iff_not, Bool.and_eq_true, Bool.or_eq_true, Bool.and_eq_false_iff, Bool.or_eq_false_iff, Bool.not_eq_true', Bool.not_eq_false', Bool.not_true, Bool.not_false, bif_and, bif_or, Bool.not_not, ne_eq, Decidable.not_not, not_true_eq_false, not_false_eq_true, Int.not_le, Int.not_lt] at hc1)
    refine awp_skip ?_
    change Awp _ _ _ _ _
    refine awp_seq ?_
    refine awp_seq ?_
    refine awp_region 18 mixed (by kernel_rfl) ?_
    refine rg_q (q_fieldAddr fld26_0 rfl) ?_
    refine rg_q (q_load sz22 rfl rfl) ?_
    refine rg_q (q_len isl22 rfl (by exact len_map _ _)) ?_
    refine rg_q (q_call en18 (.cons rfl .nil) rfl (few_p _)) ?_
    refine rg_q (q_not rfl) ?_
    refine rg_q (q_move (x := .d (.v _)) rfl) ?_
    refine rg_g rfl rfl (fun hG => (q_fieldAddr fld33_1 rfl)) ?_
    refine rg_g rfl rfl (fun hG => (q_load sz31 rfl rfl)) ?_
    refine rg_g rfl rfl (fun hG => (q_len isl31 rfl (by exact len_map _ _))) ?_
    refine rg_g rfl rfl (fun hG => (q_call en18 (.cons rfl .nil) rfl (few_p _))) ?_
    refine rg_g rfl rfl (fun hG => (q_not rfl)) ?_
    refine rg_pick rfl rfl rfl rfl rfl rfl ?_
    refine rg_q (q_move (x := .d (.v _)) rfl) ?_
    refine rg_g rfl rfl (fun hG => (q_fieldAddr fld117_0 rfl)) ?_
    refine rg_g rfl rfl (fun hG => (q_load sz3 rfl rfl)) ?_
    refine rg_g rfl rfl (fun hG => (q_call en34 (.cons rfl (.cons rfl (.cons rfl .nil))) rfl (Within_p _ _ _))) ?_
    refine rg_g rfl rfl (fun hG => (q_not rfl)) ?_
    refine rg_pick rfl rfl rfl rfl rfl rfl ?_
    refine rg_nil ?_
    refine aops_nil ?_
    change Awp _ _ _ _ _
    refine awp_len (t := 24) rfl (fun hl24 => ?_)
    (try simp only [List.length_map] at hl24)
    refine awp_cond rfl (fun hc3 => ?_) (fun hc3 => ?_)
    ·
      (try simp only [decide_eq_true_eq, decide_eq_false_iff_not, Bool.and_eq_true, Bool.or_eq_true, Bool.and_eq_false_iff, Bool.or_eq_false_iff, Bool.not_eq_true', Bool.not_eq_false', Bool.not_true, Bool.not_false, bif_and, bif_or, Bool.not_not, ne_eq, Decidable.not_not, not_true_eq_false, not_false_eq_true, Int.not_le, Int.not_lt] at hc3)
      refine awp_seq ?_
      refine awp_region 1 mixed (by kernel_rfl) ?_
      refine rg_q (q_assign (x := .d (.v _)) rfl) ?_
      refine rg_nil ?_
      refine aops_nil ?_
      change Awp _ _ _ _ _
      refine awp_ret ?_
      refine ⟨_, (.cons (.tmp (by exact .d _)) .nil), ?_⟩
      rfl
    ·
      (try simp only [decide_eq_true_eq, decide_eq_false_iff_not, Bool.and_eq_true, Bool.or_eq_true, Bool.and_eq_false_iff, Bool.or_eq_false_iff, Bool.not_eq_true', Bool.not_eq_false', Bool.not_true, Bool.not_false, bif_and, bif_or, Bool.not_not, ne_eq, Decidable.not_not, not_true_eq_false, not_false_eq_true, Int.not_le, Int.not_lt] at hc3)
      have hl1 : a.el.length ≤ 18 := by omega
      have hl2 : x.tk.length ≤ 18 := by omega
      have hb : 0 ≤ b ∧ b ≤ 100000 := by simp_all [inR]
      refine awp_skip ?_
      change Awp _ _ _ _ _
      refine awp_seq ?_
      refine awp_regionM 13 [none, none, none, none, none, none, none, none, none, none, some 7, some 7, none] mixed (by kernel_rfl) ?_
      refine rgm_q rfl (q_loadA (ds := [_, _, _, _, _, _]) sz26 rfl rfl rfl) ?_
      refine rgm_q rfl (q_call en20 (.cons rfl .nil) rfl (copyLar_p _ (by omega))) ?_
      refine rgm_q rfl (q_loadA (ds := [_, _]) sz33 rfl rfl rfl) ?_
      refine rgm_q rfl (q_call en26 (.cons rfl .nil) rfl (copyLaw_p _ (by omega))) ?_
      refine rgm_q rfl (q_fieldAddr fld117_1 rfl) ?_
      refine rgm_q rfl (q_loadA (ds := [_, _]) sz28 rfl rfl rfl) ?_
      refine rgm_q rfl (q_call en27 (.cons rfl (.cons rfl (.cons rfl .nil))) rfl (spread_p a x p)) ?_
      refine rgm_q rfl (q_move (x := .d (.tup _)) rfl) ?_
      refine rgm_q rfl (q_extract rfl rfl) ?_
      refine rgm_q rfl (q_extract rfl rfl) ?_
      refine rgm_m (k := 7) rfl rfl (by rfl) (m_alloc zr49 rfl rfl) ?_
      refine rgm_m (k := 7) rfl rfl (by rfl) (m_store sz49 rfl rfl (by exact .inr ⟨_, rfl⟩) rfl rfl (by decide) rfl) ?_
      refine rgm_q rfl (q_assign (x := .d (.v _)) rfl) ?_
      refine rgm_nil ?_
      refine aops_nil ?_
      change Awp _ _ _ _ _
      refine awp_seq ?_
      refine awp_seq ?_
      refine awp_region 2 mixed (by kernel_rfl) ?_
      refine rg_q (q_move (x := .d (.v _)) rfl) ?_
      refine rg_q (q_neq rfl rfl) ?_
      refine rg_nil ?_
      refine aops_nil ?_
      change Awp _ _ _ _ _
      refine awp_cond rfl (fun hc6 => ?_) (fun hc6 => ?_)
      ·
        (try simp only [decide_eq_true_eq, decide_eq_false_iff_not, Bool.and_eq_true, Bool.or_eq_true, Bool.and_eq_false_iff, Bool.or_eq_false_iff, Bool.not_eq_true', Bool.not_eq_false', Bool.not_true, Bool.not_false, bif_and, bif_or, Bool.not_not, ne_eq, Decidable.not_not, not_true_eq_false, not_false_eq_true, Int.not_le, Int.not_lt] at hc6)
        have hbad := sprR_bad hc6
        refine awp_seq ?_
        refine awp_region 4 mixed (by kernel_rfl) ?_
        refine rg_q (q_load_refA (ds := [_, _]) sz49 rfl rfl rfl rfl) ?_
        refine rg_q (q_build (cs := [_, _]) pl49 zr49 rfl .nil trivial rfl) ?_
        refine rg_q (q_eqlI (xs := [_, _]) (ys := [_, _]) eqi49 rfl rfl rfl rfl) ?_
        refine rg_q (q_assign (x := .d (.v _)) rfl) ?_
        refine rg_nil ?_
        refine aops_nil ?_
        change Awp _ _ _ _ _
        refine awp_ret ?_
        refine ⟨_, (.cons (.tmp (by exact .d _)) .nil), ?_⟩
        rw [hbad]; simp [retD]
      ·
        (try simp only [decide_eq_true_eq, decide_eq_false_iff_not, Bool.and_eq_true, Bool.or_eq_true, Bool.and_eq_false_iff, Bool.or_eq_false_iff, Bool.not_eq_true', Bool.not_eq_false', Bool.not_true, Bool.not_false, bif_and, bif_or, Bool.not_not, ne_eq, Decidable.not_not, not_true_eq_false, not_false_eq_true, Int.not_le, Int.not_lt] at hc6)
        have hsp : (sprR a x p).2 = 0 := hc6
        obtain ⟨ho, hp, hn, _⟩ := sprR_ok hsp
        obtain ⟨k1, k2, k3⟩ := lop_ok ho
        have hok := (ckLaw_ok k2).1
        obtain ⟨hnm, hnd⟩ := nrm_shf hok k2 hn
        have hna := nrm_again hok k2 hn
        have hns := shf_spr hsp hnd
        have hadd := add_eq k2 hb.1 hb.2
        refine awp_skip ?_
        change Awp _ _ _ _ _
        refine awp_seq ?_
        refine awp_region 3 mixed (by kernel_rfl) ?_
        refine rg_q (q_fieldAddr fld33_0 rfl) ?_
        refine rg_q (q_load sz3 rfl rfl) ?_
        refine rg_q (q_build (cs := [_, _]) pl33 zr33 rfl (.cons rfl (by exact .inl rfl) .nil) ⟨⟨rfl, by decide⟩, trivial⟩ rfl) ?_
        refine rg_nil ?_
        refine aops_alloc zr33 rfl rfl rfl ?_
        refine aops_store sz33 rfl rfl (by exact .inr ⟨_, rfl⟩) rfl rfl (by decide) rfl ?_
        refine aops_nil ?_
        change Awp _ _ _ _ _
        refine awp_seq ?_
        refine awp_seq ?_
        refine Awp.le (le_ownB 9 71 1 3 1 rfl rfl rfl) ?_
        refine awp_region 1 mixed (by kernel_rfl) ?_
        refine rg_q (q_assign (x := .d (.v _)) rfl) ?_
        refine rg_nil ?_
        refine aops_nil ?_
        change Awp _ _ _ _ _
        refine awp_block ?_
        refine awp_loopH [10, 59, 60, 61, 62, 63, 64, 65, 66, 67, 68, 69, 70, 71, 72] [9, 71] (α := Nat) (fun k => [(10, T.i (k : Int))]) (fun k => [(9, .tbox [.d (.v (.int .i64 x.ck)), .rs 71]), (71, .row 3 1 ((bltL (fun _ => b) k).map iC))]) (fun k => k ≤ x.tk.length) (fun k => x.tk.length - k) 0 (Nat.zero_le _) ?_ ?_
        · exact le_head (ms := [9, 71]) (by repeat (exact Out.refl _)) ⟨(by rfl), trivial⟩ ⟨(by rfl), (by rfl), trivial⟩ rfl rfl rfl rfl
        ·
          intro k hk
          refine awp_seq ?_
          refine awp_seq ?_
          refine awp_region 5 mixed (by kernel_rfl) ?_
          refine rg_q (q_move (x := .d (.v _)) rfl) ?_
          refine rg_q (q_fieldAddr fld33_1 rfl) ?_
          refine rg_q (q_load sz31 rfl rfl) ?_
          refine rg_q (q_len isl31 rfl (by exact len_map _ _)) ?_
          refine rg_q (q_lss rfl rfl) ?_
          refine rg_nil ?_
          refine aops_nil ?_
          change Awp _ _ _ _ _
          refine awp_len (t := 61) rfl (fun hl61 => ?_)
          (try simp only [List.length_map] at hl61)
          refine awp_cond rfl (fun hc10 => ?_) (fun hc10 => ?_)
          ·
            (try simp only [decide_eq_true_eq, decide_eq_false_iff_not, Bool.and_eq_true, Bool.or_eq_true, Bool.and_eq_false_iff, Bool.or_eq_false_iff, Bool.not_eq_true', Bool.not_eq_false', Bool.not_true, Bool.not_false, bif_and, bif_or, Bool.not_not, ne_eq, Decidable.not_not, not_true_eq_false, not_false_eq_true, Int.not_le, Int.not_lt] at hc10)
            have hlt : k < x.tk.length := by omega
            have hsk := bltL_succ (fun _ => b) k
            have hln : (bltL (fun _ => b) k).length ≤ 18 := by rw [bltL_len]; omega
            refine awp_skip ?_
            change Awp _ _ _ _ _
            refine awp_seq ?_
            refine awp_block ?_
            refine awp_region 5 mixed (by kernel_rfl) ?_
            refine rg_q (q_fieldAddr_ref fld33_1 rfl) ?_
            refine rg_q (q_load_tb (x := .rs _) sz31 rfl rfl rfl) ?_
            refine rg_q (q_fieldAddr fld117_0 rfl) ?_
            refine rg_q (q_load sz3 rfl rfl) ?_
            refine rg_q (q_buildSlice sl31 zr3 rfl rfl (by decide) (.cons rfl (by exact .inl rfl) .nil) ⟨rfl, rfl, trivial⟩ rfl (by decide) rfl) ?_
            refine rg_nil ?_
            refine aops_append sl31 zr3 by3 rfl (by decide) rfl rfl rfl rfl (by (try simp only [List.length_map, List.length_append, List.length_cons, List.length_nil]); omega) (by (try simp only [List.length_map, List.length_append, List.length_cons, List.length_nil]); omega) rfl rfl ?_
            refine aops_q rfl (q_fieldAddr_ref fld33_1 rfl) ?_
            refine aops_storeT (z := .rs _) sz31 rfl rfl rfl rfl (by simp) rfl ?_
            refine aops_nil ?_
            change Awp _ _ _ _ _
            refine awp_region 3 mixed (by kernel_rfl) ?_
            refine rg_q (q_move (x := .d (.v _)) rfl) ?_
            refine rg_q (q_add rfl rfl (In64.mk (by omega) (by omega))) ?_
            refine rg_q (q_assign (x := .d (.v _)) rfl) ?_
            refine rg_nil ?_
            refine aops_nil ?_
            refine ⟨k + 1, by omega, by omega, ?_⟩
            exact le_head (ms := [9, 71]) (by repeat (first | exact Out.head rfl rfl | (refine Out.put ?_ rfl) | (refine Out.site ?_ rfl) | (refine Out.killS ?_ rfl))) ⟨(by rfl), trivial⟩ ⟨(by rfl), (by (show Site.row 3 1 (_ ++ [_]) = Site.row 3 1 _; rw [hsk, List.map_append]; rfl)), trivial⟩ rfl rfl rfl rfl
          ·
            (try simp only [decide_eq_true_eq, decide_eq_false_iff_not, Bool.and_eq_true, Bool.or_eq_true, Bool.and_eq_false_iff, Bool.or_eq_false_iff, Bool.not_eq_true', Bool.not_eq_false', Bool.not_true, Bool.not_false, bif_and, bif_or, Bool.not_not, ne_eq, Decidable.not_not, not_true_eq_false, not_false_eq_true, Int.not_le, Int.not_lt] at hc10)
            have hkn : k = x.tk.length := by omega
            subst hkn
            refine awp_exit ?_
            change Awp _ _ _ _ _
            refine awp_seq ?_
            refine Awp.le (le_freezeTB 9 71 1 rfl rfl rfl rfl hmine) ?_
            refine Awp.le (le_boxT 9 (dlyC (eqL x b)) rfl rfl (by intro j d h; match j, h with | 0, h => cases h; rfl | 1, h => cases h; rfl)) ?_
            refine awp_regionM 10 [none, none, none, none, none, none, none, some 11, some 11, none] mixed (by kernel_rfl) ?_
            refine rgm_q rfl (q_loadA (ds := [_, _]) sz33 rfl rfl rfl) ?_
            refine rgm_q rfl (q_call en26 (.cons rfl .nil) rfl (copyLaw_p _ (by omega))) ?_
            refine rgm_q rfl (q_load_refA (ds := [_, _]) sz33 rfl rfl rfl rfl) ?_
            refine rgm_q rfl (q_call en63 (.cons rfl (.cons rfl .nil)) rfl (added_p x (eqL x b))) ?_
            refine rgm_q rfl (q_move (x := .d (.tup _)) rfl) ?_
            refine rgm_q rfl (q_extract rfl rfl) ?_
            refine rgm_q rfl (q_extract rfl rfl) ?_
            refine rgm_m (k := 11) rfl rfl (by rfl) (m_alloc zr33 rfl rfl) ?_
            refine rgm_m (k := 11) rfl rfl (by rfl) (m_store sz33 rfl rfl (by exact .inr ⟨_, rfl⟩) rfl rfl (by decide) rfl) ?_
            refine rgm_q rfl (q_assign (x := .d (.v _)) rfl) ?_
            refine rgm_nil ?_
            refine aops_nil ?_
            change Awp _ _ _ _ _
            refine awp_seq ?_
            refine awp_region 6 mixed (by kernel_rfl) ?_
            refine rg_q (q_loadA (ds := [_, _]) sz33 rfl rfl rfl) ?_
            refine rg_q (q_call en26 (.cons rfl .nil) rfl (copyLaw_p _ (by omega))) ?_
            refine rg_q (q_call en64 (.cons rfl .nil) rfl (normalised_p _)) ?_
            refine rg_q (q_move (x := .d (.tup _)) rfl) ?_
            refine rg_q (q_extract rfl rfl) ?_
            refine rg_q (q_extract rfl rfl) ?_
            refine rg_nil ?_
            refine aops_alloc zr33 rfl rfl rfl ?_
            refine aops_store sz33 rfl rfl (by exact .inr ⟨_, rfl⟩) rfl rfl (by decide) rfl ?_
            refine aops_q rfl (q_assign (x := .d (.v _)) rfl) ?_
            refine aops_nil ?_
            change Awp _ _ _ _ _
            refine awp_seq ?_
            refine awp_seq ?_
            refine awp_region 2 mixed (by kernel_rfl) ?_
            refine rg_q (q_move (x := .d (.v _)) rfl) ?_
            refine rg_q (q_eql rfl rfl) ?_
            refine rg_nil ?_
            refine aops_nil ?_
            change Awp _ _ _ _ _
            refine awp_cond rfl (fun hc15 => ?_) (fun hc15 => ?_)
            ·
              (try simp only [decide_eq_true_eq, decide_eq_false_iff_not, Bool.and_eq_true, Bool.or_eq_true, Bool.and_eq_false_iff, Bool.or_eq_false_iff, Bool.not_eq_true', Bool.not_eq_false', Bool.not_true, Bool.not_false, bif_and, bif_or, Bool.not_not, ne_eq, Decidable.not_not, not_true_eq_false, not_false_eq_true, Int.not_le, Int.not_lt] at hc15)
              obtain ⟨hm, hmd⟩ : addR x (eqL x b) = (shf x b, 0) ∧ ∀ t ∈ x.tk, 0 ≤ t → 0 ≤ t + b ∧ t + b ≤ 1000000 := by
                rcases hadd with q | q
                · exact q
                · rw [q] at hc15; cases hc15
              have hms := shf_spr hsp hmd
              refine awp_seq ?_
              refine awp_regionM 12 [none, none, none, none, none, none, none, none, none, some 15, some 15, none] mixed (by kernel_rfl) ?_
              refine rgm_q rfl (q_loadA (ds := [_, _, _, _, _, _]) sz26 rfl rfl rfl) ?_
              refine rgm_q rfl (q_call en20 (.cons rfl .nil) rfl (copyLar_p _ (by omega))) ?_
              refine rgm_q rfl (q_load_refA (ds := [_, _]) sz33 rfl rfl rfl rfl) ?_
              refine rgm_q rfl (q_fieldAddr fld117_1 rfl) ?_
              refine rgm_q rfl (q_loadA (ds := [_, _]) sz28 rfl rfl rfl) ?_
              refine rgm_q rfl (q_call en27 (.cons rfl (.cons rfl (.cons rfl .nil))) rfl (spread_p a (addR x (eqL x b)).1 p)) ?_
              refine rgm_q rfl (q_move (x := .d (.tup _)) rfl) ?_
              refine rgm_q rfl (q_extract rfl rfl) ?_
              refine rgm_q rfl (q_extract rfl rfl) ?_
              refine rgm_m (k := 15) rfl rfl (by rfl) (m_alloc zr49 rfl rfl) ?_
              refine rgm_m (k := 15) rfl rfl (by rfl) (m_store sz49 rfl rfl (by exact .inr ⟨_, rfl⟩) rfl rfl (by decide) rfl) ?_
              refine rgm_q rfl (q_assign (x := .d (.v _)) rfl) ?_
              refine rgm_nil ?_
              refine aops_nil ?_
              change Awp _ _ _ _ _
              refine awp_seq ?_
              refine awp_region 7 mixed (by kernel_rfl) ?_
              refine rg_q (q_move (x := .d (.v _)) rfl) ?_
              refine rg_q (q_neq rfl rfl) ?_
              refine rg_q (q_move (x := .d (.v _)) rfl) ?_
              refine rg_g rfl rfl (fun hG => (q_load_refA (ds := [_, _]) sz49 rfl rfl rfl rfl)) ?_
              refine rg_g rfl rfl (fun hG => (q_load_refA (ds := [_, _]) sz49 rfl rfl rfl rfl)) ?_
              refine rg_g rfl rfl (fun hG => (q_neqI (xs := [_, _]) (ys := [_, _]) eqi49 rfl rfl rfl rfl)) ?_
              refine rg_pick rfl rfl rfl rfl rfl rfl ?_
              refine rg_nil ?_
              refine aops_nil ?_
              change Awp _ _ _ _ _
              refine awp_cond rfl (fun hc17 => ?_) (fun hc17 => ?_)
              ·
                rw [hm, hms] at hc17
                simp [hsp] at hc17
              ·
                (try simp only [decide_eq_true_eq, decide_eq_false_iff_not, Bool.and_eq_true, Bool.or_eq_true, Bool.and_eq_false_iff, Bool.or_eq_false_iff, Bool.not_eq_true', Bool.not_eq_false', Bool.not_true, Bool.not_false, bif_and, bif_or, Bool.not_not, ne_eq, Decidable.not_not, not_true_eq_false, not_false_eq_true, Int.not_le, Int.not_lt] at hc17)
                refine awp_skip ?_
                change Awp _ _ _ _ _
                refine awp_seq ?_
                refine awp_seq ?_
                refine awp_region 10 mixed (by kernel_rfl) ?_
                refine rg_q (q_move (x := .d (.v _)) rfl) ?_
                refine rg_q (q_neq rfl rfl) ?_
                refine rg_q (q_move (x := .d (.v _)) rfl) ?_
                refine rg_g rfl rfl (fun hG => (q_move (x := .d (.v _)) rfl)) ?_
                refine rg_g rfl rfl (fun hG => (q_neq rfl rfl)) ?_
                refine rg_g rfl rfl (fun hG => (q_move (x := .d (.v _)) rfl)) ?_
                refine rg_g rfl rfl (fun hG => (q_move (x := .d (.v _)) rfl)) ?_
                refine rg_g rfl rfl (fun hG => (q_neq rfl rfl)) ?_
                refine rg_pickg rfl rfl rfl rfl rfl rfl rfl rfl ?_
                refine rg_pick rfl rfl rfl rfl rfl rfl ?_
                refine rg_nil ?_
                refine aops_nil ?_
                change Awp _ _ _ _ _
                refine awp_cond rfl (fun hc19 => ?_) (fun hc19 => ?_)
                ·
                  rw [hnm, hm] at hc19
                  simp at hc19
                ·
                  (try simp only [decide_eq_true_eq, decide_eq_false_iff_not, Bool.and_eq_true, Bool.or_eq_true, Bool.and_eq_false_iff, Bool.or_eq_false_iff, Bool.not_eq_true', Bool.not_eq_false', Bool.not_true, Bool.not_false, bif_and, bif_or, Bool.not_not, ne_eq, Decidable.not_not, not_true_eq_false, not_false_eq_true, Int.not_le, Int.not_lt] at hc19)
                  have hl3 : (nrmR x).1.tk.length ≤ 18 := by rw [hnm]; simp only [shf_len]; exact hl2
                  refine awp_skip ?_
                  change Awp _ _ _ _ _
                  refine awp_seq ?_
                  refine awp_region 6 mixed (by kernel_rfl) ?_
                  refine rg_q (q_load_refA (ds := [_, _]) sz33 rfl rfl rfl rfl) ?_
                  refine rg_q (q_call en26 (.cons rfl .nil) rfl (copyLaw_p _ (by omega))) ?_
                  refine rg_q (q_call en64 (.cons rfl .nil) rfl (normalised_p _)) ?_
                  refine rg_q (q_move (x := .d (.tup _)) rfl) ?_
                  refine rg_q (q_extract rfl rfl) ?_
                  refine rg_q (q_extract rfl rfl) ?_
                  refine rg_nil ?_
                  refine aops_alloc zr33 rfl rfl rfl ?_
                  refine aops_store sz33 rfl rfl (by exact .inr ⟨_, rfl⟩) rfl rfl (by decide) rfl ?_
                  refine aops_q rfl (q_assign (x := .d (.v _)) rfl) ?_
                  refine aops_nil ?_
                  change Awp _ _ _ _ _
                  refine awp_seq ?_
                  refine awp_regionM 13 [none, none, none, none, none, none, none, none, none, none, some 19, some 19, none] mixed (by kernel_rfl) ?_
                  refine rgm_q rfl (q_loadA (ds := [_, _, _, _, _, _]) sz26 rfl rfl rfl) ?_
                  refine rgm_q rfl (q_call en20 (.cons rfl .nil) rfl (copyLar_p _ (by omega))) ?_
                  refine rgm_q rfl (q_load_refA (ds := [_, _]) sz33 rfl rfl rfl rfl) ?_
                  refine rgm_q rfl (q_call en26 (.cons rfl .nil) rfl (copyLaw_p _ (by omega))) ?_
                  refine rgm_q rfl (q_fieldAddr fld117_1 rfl) ?_
                  refine rgm_q rfl (q_loadA (ds := [_, _]) sz28 rfl rfl rfl) ?_
                  refine rgm_q rfl (q_call en27 (.cons rfl (.cons rfl (.cons rfl .nil))) rfl (spread_p a (nrmR x).1 p)) ?_
                  refine rgm_q rfl (q_move (x := .d (.tup _)) rfl) ?_
                  refine rgm_q rfl (q_extract rfl rfl) ?_
                  refine rgm_q rfl (q_extract rfl rfl) ?_
                  refine rgm_m (k := 19) rfl rfl (by rfl) (m_alloc zr49 rfl rfl) ?_
                  refine rgm_m (k := 19) rfl rfl (by rfl) (m_store sz49 rfl rfl (by exact .inr ⟨_, rfl⟩) rfl rfl (by decide) rfl) ?_
                  refine rgm_q rfl (q_assign (x := .d (.v _)) rfl) ?_
                  refine rgm_nil ?_
                  refine aops_nil ?_
                  change Awp _ _ _ _ _
                  refine awp_seq ?_
                  refine awp_region 17 mixed (by kernel_rfl) ?_
                  refine rg_q (q_move (x := .d (.v _)) rfl) ?_
                  refine rg_q (q_eql rfl rfl) ?_
                  refine rg_q (q_move (x := .d (.v _)) rfl) ?_
                  refine rg_g rfl rfl (fun hG => (q_load_refA (ds := [_, _]) sz33 rfl rfl rfl rfl)) ?_
                  refine rg_g rfl rfl (fun hG => (q_load_refA (ds := [_, _]) sz33 rfl rfl rfl rfl)) ?_
                  refine rg_g rfl rfl (fun hG => (q_call en24 (.cons rfl (.cons rfl .nil)) rfl (same_p _ _))) ?_
                  refine rg_pick rfl rfl rfl rfl rfl rfl ?_
                  refine rg_q (q_move (x := .d (.v _)) rfl) ?_
                  refine rg_g rfl rfl (fun hG => (q_move (x := .d (.v _)) rfl)) ?_
                  refine rg_g rfl rfl (fun hG => (q_eql rfl rfl)) ?_
                  refine rg_pick rfl rfl rfl rfl rfl rfl ?_
                  refine rg_q (q_move (x := .d (.v _)) rfl) ?_
                  refine rg_g rfl rfl (fun hG => (q_load_refA (ds := [_, _]) sz49 rfl rfl rfl rfl)) ?_
                  refine rg_g rfl rfl (fun hG => (q_load_refA (ds := [_, _]) sz49 rfl rfl rfl rfl)) ?_
                  refine rg_g rfl rfl (fun hG => (q_eqlI (xs := [_, _]) (ys := [_, _]) eqi49 rfl rfl rfl rfl)) ?_
                  refine rg_pick rfl rfl rfl rfl rfl rfl ?_
                  refine rg_q (q_assign (x := .d (.v _)) rfl) ?_
                  refine rg_nil ?_
                  refine aops_nil ?_
                  change Awp _ _ _ _ _
                  refine awp_ret ?_
                  refine ⟨_, (.cons (.tmp (by exact .d _)) .nil), ?_⟩
                  rw [hnm, hna, hns]; simp [retD, hsp]
            ·
              (try simp only [decide_eq_true_eq, decide_eq_false_iff_not, Bool.and_eq_true, Bool.or_eq_true, Bool.and_eq_false_iff, Bool.or_eq_false_iff, Bool.not_eq_true', Bool.not_eq_false', Bool.not_true, Bool.not_false, bif_and, bif_or, Bool.not_not, ne_eq, Decidable.not_not, not_true_eq_false, not_false_eq_true, Int.not_le, Int.not_lt] at hc15)
              have hf8 : (addR x (eqL x b)).2 = 8 := by
                rcases hadd with q | q
                · rw [q.1] at hc15; exact absurd rfl hc15
                · exact q
              refine awp_skip ?_
              change Awp _ _ _ _ _
              refine awp_seq ?_
              refine awp_seq ?_
              refine awp_region 10 mixed (by kernel_rfl) ?_
              refine rg_q (q_move (x := .d (.v _)) rfl) ?_
              refine rg_q (q_neq rfl rfl) ?_
              refine rg_q (q_move (x := .d (.v _)) rfl) ?_
              refine rg_g rfl rfl (fun hG => (q_move (x := .d (.v _)) rfl)) ?_
              refine rg_g rfl rfl (fun hG => (q_neq rfl rfl)) ?_
              refine rg_g rfl rfl (fun hG => (q_move (x := .d (.v _)) rfl)) ?_
              refine rg_g rfl rfl (fun hG => (q_move (x := .d (.v _)) rfl)) ?_
              refine rg_g rfl rfl (fun hG => (q_neq rfl rfl)) ?_
              refine rg_pickg rfl rfl rfl rfl rfl rfl rfl rfl ?_
              refine rg_pick rfl rfl rfl rfl rfl rfl ?_
              refine rg_nil ?_
              refine aops_nil ?_
              change Awp _ _ _ _ _
              refine awp_cond rfl (fun hc19 => ?_) (fun hc19 => ?_)
              ·
                rw [hnm, hf8] at hc19
                simp at hc19
              ·
                (try simp only [decide_eq_true_eq, decide_eq_false_iff_not, Bool.and_eq_true, Bool.or_eq_true, Bool.and_eq_false_iff, Bool.or_eq_false_iff, Bool.not_eq_true', Bool.not_eq_false', Bool.not_true, Bool.not_false, bif_and, bif_or, Bool.not_not, ne_eq, Decidable.not_not, not_true_eq_false, not_false_eq_true, Int.not_le, Int.not_lt] at hc19)
                have hl3 : (nrmR x).1.tk.length ≤ 18 := by rw [hnm]; simp only [shf_len]; exact hl2
                refine awp_skip ?_
                change Awp _ _ _ _ _
                refine awp_seq ?_
                refine awp_region 6 mixed (by kernel_rfl) ?_
                refine rg_q (q_load_refA (ds := [_, _]) sz33 rfl rfl rfl rfl) ?_
                refine rg_q (q_call en26 (.cons rfl .nil) rfl (copyLaw_p _ (by omega))) ?_
                refine rg_q (q_call en64 (.cons rfl .nil) rfl (normalised_p _)) ?_
                refine rg_q (q_move (x := .d (.tup _)) rfl) ?_
                refine rg_q (q_extract rfl rfl) ?_
                refine rg_q (q_extract rfl rfl) ?_
                refine rg_nil ?_
                refine aops_alloc zr33 rfl rfl rfl ?_
                refine aops_store sz33 rfl rfl (by exact .inr ⟨_, rfl⟩) rfl rfl (by decide) rfl ?_
                refine aops_q rfl (q_assign (x := .d (.v _)) rfl) ?_
                refine aops_nil ?_
                change Awp _ _ _ _ _
                refine awp_seq ?_
                refine awp_regionM 13 [none, none, none, none, none, none, none, none, none, none, some 19, some 19, none] mixed (by kernel_rfl) ?_
                refine rgm_q rfl (q_loadA (ds := [_, _, _, _, _, _]) sz26 rfl rfl rfl) ?_
                refine rgm_q rfl (q_call en20 (.cons rfl .nil) rfl (copyLar_p _ (by omega))) ?_
                refine rgm_q rfl (q_load_refA (ds := [_, _]) sz33 rfl rfl rfl rfl) ?_
                refine rgm_q rfl (q_call en26 (.cons rfl .nil) rfl (copyLaw_p _ (by omega))) ?_
                refine rgm_q rfl (q_fieldAddr fld117_1 rfl) ?_
                refine rgm_q rfl (q_loadA (ds := [_, _]) sz28 rfl rfl rfl) ?_
                refine rgm_q rfl (q_call en27 (.cons rfl (.cons rfl (.cons rfl .nil))) rfl (spread_p a (nrmR x).1 p)) ?_
                refine rgm_q rfl (q_move (x := .d (.tup _)) rfl) ?_
                refine rgm_q rfl (q_extract rfl rfl) ?_
                refine rgm_q rfl (q_extract rfl rfl) ?_
                refine rgm_m (k := 19) rfl rfl (by rfl) (m_alloc zr49 rfl rfl) ?_
                refine rgm_m (k := 19) rfl rfl (by rfl) (m_store sz49 rfl rfl (by exact .inr ⟨_, rfl⟩) rfl rfl (by decide) rfl) ?_
                refine rgm_q rfl (q_assign (x := .d (.v _)) rfl) ?_
                refine rgm_nil ?_
                refine aops_nil ?_
                change Awp _ _ _ _ _
                refine awp_seq ?_
                refine awp_region 17 mixed (by kernel_rfl) ?_
                refine rg_q (q_move (x := .d (.v _)) rfl) ?_
                refine rg_q (q_eql rfl rfl) ?_
                refine rg_q (q_move (x := .d (.v _)) rfl) ?_
                refine rg_g rfl rfl (fun hG => (q_load_refA (ds := [_, _]) sz33 rfl rfl rfl rfl)) ?_
                refine rg_g rfl rfl (fun hG => (q_load_refA (ds := [_, _]) sz33 rfl rfl rfl rfl)) ?_
                refine rg_g rfl rfl (fun hG => (q_call en24 (.cons rfl (.cons rfl .nil)) rfl (same_p _ _))) ?_
                refine rg_pick rfl rfl rfl rfl rfl rfl ?_
                refine rg_q (q_move (x := .d (.v _)) rfl) ?_
                refine rg_g rfl rfl (fun hG => (q_move (x := .d (.v _)) rfl)) ?_
                refine rg_g rfl rfl (fun hG => (q_eql rfl rfl)) ?_
                refine rg_pick rfl rfl rfl rfl rfl rfl ?_
                refine rg_q (q_move (x := .d (.v _)) rfl) ?_
                refine rg_g rfl rfl (fun hG => (q_load_refA (ds := [_, _]) sz49 rfl rfl rfl rfl)) ?_
                refine rg_g rfl rfl (fun hG => (q_load_refA (ds := [_, _]) sz49 rfl rfl rfl rfl)) ?_
                refine rg_g rfl rfl (fun hG => (q_eqlI (xs := [_, _]) (ys := [_, _]) eqi49 rfl rfl rfl rfl)) ?_
                refine rg_pick rfl rfl rfl rfl rfl rfl ?_
                refine rg_q (q_assign (x := .d (.v _)) rfl) ?_
                refine rg_nil ?_
                refine aops_nil ?_
                change Awp _ _ _ _ _
                refine awp_ret ?_
                refine ⟨_, (.cons (.tmp (by exact .d _)) .nil), ?_⟩
                rw [hnm, hna, hns]; simp [retD, hsp]
end Go.Proofs.YtgeieocphgnipaaGreatDoor.Am.M
