/- Contracts over the abstract machine: package bench: a right specimen with its points. Conditions: none. -/
import Derived.Test.YtblbnagdhcpnoaaK11
set_option linter.unusedVariables false
set_option linter.unusedSimpArgs false
-- mini
namespace Go.Proofs.Ytblbnagdhcpnoaa.Am.M
open Go

section
variable {P : Program} {w0 : Cx} {ty : TypeId} {pos : String} {after : Array Edge}
def notDead : T → Bool
  | .dead => false
  | _ => true
theorem argsS_live {ev ev' : Operand → T} {f : Nat → Nat} {ys : List Operand} {xs : List T} (h : ArgsS ev f ys xs) (hx : ∀ y, ev y = .dead ∨ ev' y = ev y) (hd : xs.all notDead = true) : ArgsS ev' f ys xs := by
  induction h with
  | nil => exact .nil
  | @cons y ys x xs h _ ih =>
    simp only [List.all_cons, Bool.and_eq_true] at hd
    refine .cons ?_ (ih hd.2)
    rcases hx y with e | e
    · rw [e] at h
      cases x <;> first | (cases h; done) | (have := hd.1; simp [notDead] at this; done)
    · rw [e]; exact h
/-- A call that is handed a row, and hands it back grown, in a chain. -/
theorem c_callR {s : St} {ev : Operand → T} {d k e sz : Nat} {es es' : List (List D)} {f : FuncId} {ys : List Operand} {at_ : Array TypeId} {args : List T} (he : enB P f = true) (hr : PCS P f args [.row e sz es] (.rs 0) [.row e sz es'])
    (ha : ArgsS ev (nth [k]) ys args) (hnd : args.all notDead = true) (hk : s.s k = .row e sz es) (hc : callOk [k] args [.row e sz es] (.rs 0) [.row e sz es'] = true) :
    COp P w0 s ev ⟨some d, .call ⟨.value (.func f), ys.toArray, at_⟩, ty, pos, after, none⟩ (.grow k d (.row e sz es')) :=
  fun st hk' hn hev hd => step_of_aops rfl fun ops rest R h => by
    refine aops_callL [k] [k] he hr (argsS_live ha hev hnd) hc rfl rfl ⟨by rw [hk']; exact hk, trivial⟩ trivial (by simp only; rw [Nat.blt_eq, hn]; exact hd d rfl) ?_
    have e1 : afterS st [k] [k] [.row e sz es'] = (st.killS k).site k (.row e sz es') := by
      simp only [afterS, St.killS, St.site, St.mk.injEq, true_and]
      refine funext fun j => ?_
      by_cases hj : j = k
      · subst hj; simp [idxN, getS, shiftS]
      · have : Nat.beq j k = false := by rw [← Bool.not_eq_true]; exact fun e => hj (Nat.eq_of_beq_eq_true e)
        simp [idxN, this]
    rw [e1]
    exact h
end

def ptsF (s : Spc) (k : Nat) : List ((Int × Int) × Int) := (s.fl.take k).flatMap ptsL
/-- All points of a specimen. -/
def ptsS (s : Spc) : List ((Int × Int) × Int) := s.fl.flatMap ptsL
theorem ptsF_succ {s : Spc} {k : Nat} {y : Flw} (h : s.fl[k]? = some y) : ptsF s (k + 1) = ptsF s k ++ ptsL y := by
  obtain ⟨hlt, hx⟩ := List.getElem?_eq_some_iff.1 h
  unfold ptsF
  rw [List.take_succ_eq_append_getElem hlt, hx, List.flatMap_append]; simp
theorem ptsF_len {s : Spc} (h : ∀ x ∈ s.fl, FlwOk x) : ∀ k : Nat, k ≤ s.fl.length → (ptsF s k).length ≤ 21 * k
  | 0, _ => by unfold ptsF; simp
  | k + 1, hk => by
    have hx : s.fl[k]? = some s.fl[k] := List.getElem?_eq_getElem (by omega)
    have h1 := ptsL_len (h _ (List.mem_of_getElem? hx))
    have h2 := ptsF_len h k (by omega)
    rw [ptsF_succ hx, List.length_append]; omega
theorem ckFls_ok {t : Int} : ∀ {l : List Flw} {i : Nat}, (ckFls t i l).2 = 0 → ∀ x ∈ l, flwE x = 0
  | [], _, _, x, hx => by cases hx
  | y :: l, i, h, x, hx => by
    unfold ckFls at h
    by_cases h1 : flE t y ≠ 0
    · rw [if_pos h1] at h; exact absurd h h1
    · rw [if_neg h1] at h
      rcases List.mem_cons.1 hx with rfl | hx
      · have h2 := Decidable.not_not.1 h1
        unfold flE at h2
        by_cases h3 : firstE [flwE x, plateE x.at_.2 t] = 0
        · rw [first_zero] at h3
          exact h3 _ (by simp)
        · rw [if_neg (fun q => h3 q.1)] at h2; exact absurd h2 h3
      · exact ckFls_ok h x hx
structure SpcOk (s : Spc) : Prop where
  ar : ArrOk s.ar
  p1 : s.pl.length ≤ 16
  p2 : ∀ n ∈ s.pl, -100 ≤ n ∧ n ≤ 100
  f1 : s.fl.length ≤ 10
  fl : ∀ x ∈ s.fl, FlwOk x
theorem spc_ok {s : Spc} (h : (ckSpc s).2 = 0) : SpcOk s := by
  unfold ckSpc at h
  by_cases h1 : (ckArr s.ar).2 ≠ 0
  · rw [if_pos h1] at h; exact absurd h h1
  rw [if_neg h1] at h
  by_cases h2 : spcE0 s ≠ 0
  · rw [if_pos h2] at h; exact absurd h h2
  rw [if_neg h2] at h
  have h3 := Decidable.not_not.1 h2
  unfold spcE0 at h3
  rw [first_zero] at h3
  simp only [List.mem_cons, List.not_mem_nil, or_false, forall_eq_or_imp, forall_eq] at h3
  obtain ⟨_, e5, e6⟩ := plsE_ok h3.1
  have e7 := (when_zero (show (8 : Int) ≠ 0 by decide)).1 h3.2
  refine ⟨(ckArr_ok (Decidable.not_not.1 h1)).1, e5, fun n hn => ?_, ?_, fun x hx => flw_ok (ckFls_ok h x hx)⟩
  · have := pulse_all (a := 1) e6 (by omega) n hn
    have h8 : plsB n = false := by
      cases hb : plsB n with
      | false => rfl
      | true => rw [List.any_eq_true.2 ⟨n, hn, hb⟩] at e6; cases e6
    unfold plsB at h8
    simp [inR] at h8
    omega
  · have := of_decide_eq_false e7
    omega

def z0 : D := .v (.int .i64 0)
/-- The specimen of an error. -/
def zOp : List D := [.v (.slice none 0 0), z0, z0, z0, z0, z0, z0, z0, z0, z0, z0, .v (.slice none 0 0), .v (.slice none 0 0)]
def osR (s : Spc) : List D × Int := if (ckSpc s).2 ≠ 0 then (zOp, (ckSpc s).2) else (opnS s (ptsS s), 0)
set_option maxRecDepth 100000 in
theorem openSpecimen_p (s : Spc) : PC Try.prog 79 [.agg (spcC s)] (.tup [.agg (osR s).1, .v (.int .i64 ((osR s).2))]) := by
  refine pc_of_awpN Try.func79 rfl Try.ntmps79 (rs := [.cell 2 136, .tmp 3]) Try.results79 (by simp) fun w0 hmine hrnd hpn => ?_
  refine awp_seq ?_
  refine awp_region 1 mixed (by kernel_rfl) ?_
  refine rg_q (q_box rfl (by exact .inr ⟨_, rfl⟩)) ?_
  refine rg_nil ?_
  refine aops_alloc zr136 rfl rfl rfl ?_
  refine aops_q rfl (q_assign (x := .d (.v _)) rfl) ?_
  refine aops_nil ?_
  change Awp _ _ _ _ _
  refine awp_seq ?_
  refine awp_seq ?_
  refine awp_region 7 mixed (by kernel_rfl) ?_
  refine rg_q (q_loadA sz54 rfl rfl rfl) ?_
  refine rg_q (q_call en23 (.cons rfl .nil) rfl (checkSpecimen_p _)) ?_
  refine rg_q (q_move (x := .d (.tup _)) rfl) ?_
  refine rg_q (q_extract rfl rfl) ?_
  refine rg_q (q_extract rfl rfl) ?_
  refine rg_q (q_assign (x := .d (.v _)) rfl) ?_
  refine rg_q (q_assign (x := .d (.v _)) rfl) ?_
  refine rg_nil ?_
  refine aops_nil ?_
  change Awp _ _ _ _ _
  refine awp_seq ?_
  refine awp_region 2 mixed (by kernel_rfl) ?_
  refine rg_q (q_move (x := .d (.v _)) rfl) ?_
  refine rg_q (q_neq rfl rfl) ?_
  refine rg_nil ?_
  refine aops_nil ?_
  change Awp _ _ _ _ _
  refine awp_cond rfl (fun hc2 => ?_) (fun hc2 => ?_)
  ·
    (try simp only [decide_eq_true_eq, decide_eq_false_iff_not, Bool.and_eq_true, Bool.or_eq_true, Bool.and_eq_false_iff, Bool.or_eq_false_iff, Bool.not_eq_true', Bool.not_eq_false', Bool.not_true, Bool.not_false, bif_and, bif_or, Bool.not_not, ne_eq, Decidable.not_not, not_true_eq_false, not_false_eq_true, Int.not_le, Int.not_lt] at hc2)
    have h0 : (ckSpc s).2 ≠ 0 := hc2
    have hz : osR s = (zOp, (ckSpc s).2) := by unfold osR; rw [if_pos h0]
    refine awp_seq ?_
    refine awp_region 2 mixed (by kernel_rfl) ?_
    refine rg_q (q_build pl136 zr136 rfl .nil trivial rfl) ?_
    refine rg_q (q_move (x := .d (.v _)) rfl) ?_
    refine rg_nil ?_
    refine aops_store sz136 rfl rfl (by exact .inr ⟨_, rfl⟩) rfl rfl (by decide) rfl ?_
    refine aops_q rfl (q_assign (x := .d (.v _)) rfl) ?_
    refine aops_nil ?_
    change Awp _ _ _ _ _
    refine awp_ret ?_
    refine ⟨_, (.cons (.cellA rfl rfl sz136 rfl) (.cons (.tmp (by exact .d _)) .nil)), ?_⟩
    rw [hz]; rfl
  ·
    (try simp only [decide_eq_true_eq, decide_eq_false_iff_not, Bool.and_eq_true, Bool.or_eq_true, Bool.and_eq_false_iff, Bool.or_eq_false_iff, Bool.not_eq_true', Bool.not_eq_false', Bool.not_true, Bool.not_false, bif_and, bif_or, Bool.not_not, ne_eq, Decidable.not_not, not_true_eq_false, not_false_eq_true, Int.not_le, Int.not_lt] at hc2)
    have h0 : (ckSpc s).2 = 0 := by omega
    have hok := spc_ok h0
    have hf1 := hok.f1
    have hz : osR s = (opnS s (ptsS s), 0) := by unfold osR; rw [if_neg (fun q => q h0)]
    refine awp_skip ?_
    change Awp _ _ _ _ _
    refine awp_seq ?_
    refine awp_region 6 mixed (by kernel_rfl) ?_
    refine rg_q (q_fieldAddr fld54_0 rfl) ?_
    refine rg_q (q_loadA (ds := [_, _, _, _, _, _, _, _, _, _, _]) sz28 rfl rfl rfl) ?_
    refine rg_q (q_build (cs := [_, _, _, _, _, _, _, _, _, _, _]) pl134 zr134 rfl (.cons rfl (by exact .inr ⟨_, rfl⟩) .nil) ⟨⟨rfl, by decide⟩, trivial⟩ rfl) ?_
    refine rg_q (q_fieldAddr fld54_1 rfl) ?_
    refine rg_q (q_load sz51 rfl rfl) ?_
    refine rg_q (q_build pl136 zr136 rfl (.cons rfl (by exact .inr ⟨_, rfl⟩) (.cons rfl (by exact .inl rfl) .nil)) ⟨⟨rfl, by decide⟩, ⟨rfl, by decide⟩, trivial⟩ rfl) ?_
    refine rg_nil ?_
    refine aops_alloc zr136 rfl rfl rfl ?_
    refine aops_store sz136 rfl rfl (by exact .inr ⟨_, rfl⟩) rfl rfl (by decide) rfl ?_
    refine aops_nil ?_
    change Awp _ _ _ _ _
    refine awp_seq ?_
    refine awp_seq ?_
    refine Awp.le (le_ownB 6 35 12 49 3 rfl rfl rfl) ?_
    refine awp_region 4 mixed (by kernel_rfl) ?_
    refine rg_q (q_fieldAddr fld54_2 rfl) ?_
    refine rg_q (q_load sz52 rfl rfl) ?_
    refine rg_q (q_len isl52 rfl (by exact len_map _ _)) ?_
    refine rg_q (q_move (x := .d (.v _)) rfl) ?_
    refine rg_nil ?_
    refine aops_nil ?_
    change Awp _ _ _ _ _
    refine awp_len (t := 25) rfl (fun hl25 => ?_)
    (try simp only [List.length_map] at hl25)
    refine awp_block ?_
    refine awp_loopH [8, 27, 28, 29, 30, 31, 32, 33, 34, 35, 36, 37] [6, 35] (α := Nat) (fun k => [(27, T.i (k : Int))]) (fun k => [(6, .tbox [.d (.sl 2 (s.ar.el.map shC)), .d (.v (.int .i64 (s.ar.ou.w))), .d (.v (.int .i64 (s.ar.ou.m))), .d (.v (.int .i64 (s.ar.ou.k))), .d (.v (.int .i64 (s.ar.ou.t))), .d (.v (.int .i64 (s.ar.ba.w))), .d (.v (.int .i64 (s.ar.ba.m))), .d (.v (.int .i64 (s.ar.ba.k))), .d (.v (.int .i64 (s.ar.ba.t))), .d (.v (.int .i64 (s.ar.ts.1))), .d (.v (.int .i64 (s.ar.ts.2))), .d (.sl 1 (s.pl.map iC)), .rs 35]), (35, .row 49 3 ((ptsF s k).map ptnC))]) (fun k => k ≤ s.fl.length) (fun k => s.fl.length - k) 0 (Nat.zero_le _) ?_ ?_
    · exact le_head (ms := [6, 35]) (by repeat (exact Out.refl _)) ⟨(by rfl), trivial⟩ ⟨(by rfl), (by rfl), trivial⟩ rfl rfl rfl rfl
    ·
      intro k hk
      refine awp_seq ?_
      refine awp_region 1 mixed (by kernel_rfl) ?_
      refine rg_q (q_lss rfl rfl) ?_
      refine rg_nil ?_
      refine aops_nil ?_
      change Awp _ _ _ _ _
      refine awp_seq ?_
      refine awp_cond rfl (fun hc6 => ?_) (fun hc6 => ?_)
      ·
        (try simp only [decide_eq_true_eq, decide_eq_false_iff_not, Bool.and_eq_true, Bool.or_eq_true, Bool.and_eq_false_iff, Bool.or_eq_false_iff, Bool.not_eq_true', Bool.not_eq_false', Bool.not_true, Bool.not_false, bif_and, bif_or, Bool.not_not, ne_eq, Decidable.not_not, not_true_eq_false, not_false_eq_true, Int.not_le, Int.not_lt] at hc6)
        have hlt : k < s.fl.length := by omega
        obtain ⟨y, hx⟩ : ∃ y, s.fl[k]? = some y := ⟨_, List.getElem?_eq_getElem hlt⟩
        have hoky := hok.fl y (List.mem_of_getElem? hx)
        have hl1 := ptsL_len hoky
        have hl2 := ptsF_len hok.fl k (by omega)
        have hs1 : (ptsF s k ++ ptsL y).map ptnC = (ptsF s (k + 1)).map ptnC := by rw [ptsF_succ hx]
        refine awp_skip ?_
        change Awp _ _ _ _ _
        refine awp_seq ?_
        refine awp_block ?_
        refine awp_seq ?_
        refine awp_region 2 mixed (by kernel_rfl) ?_
        refine rg_q (q_indexAddr sl52 rfl rfl (by omega) (map_at (by omega) hx)) ?_
        refine rg_q (q_loadA (ds := [_, _, _, _, _, _, _, _]) sz40 rfl rfl rfl) ?_
        refine rg_nil ?_
        refine aops_alloc zr40 rfl rfl rfl ?_
        refine aops_store sz40 rfl rfl (by exact .inr ⟨_, rfl⟩) rfl rfl (by decide) rfl ?_
        refine aops_nil ?_
        change Awp _ _ _ _ _
        refine awp_regionC 7 [0, 1, 4, 5, 6] [35, 6] mixed (by kernel_rfl) ?_
        refine rgc_c rfl rfl (c_q (q_fieldAddr_ref fld136_2 rfl)) ?_
        refine rgc_c rfl rfl (c_q (q_load_tb (x := .rs _) sz41 rfl rfl rfl)) ?_
        refine rgc_q rfl (q_load_refA (ds := [_, _, _, _, _, _, _, _]) sz40 rfl rfl rfl rfl) rfl ?_
        refine rgc_q rfl (q_call en59 (.cons rfl .nil) rfl (points_p _)) rfl ?_
        refine rgc_c rfl rfl (c_callR en102 (appendSeq_p (ptsF s k) (ptsL y) 103 [.pt (flwC y) 0] en103 (points_i y hoky) (by omega)) (.cons rfl (.cons rfl .nil)) rfl rfl rfl) ?_
        refine rgc_c rfl rfl (c_q (q_fieldAddr_ref fld136_2 rfl)) ?_
        refine rgc_c rfl rfl ((c_storeR sz41 rfl rfl rfl (by simp) rfl)) ?_
        refine rgc_nil ?_
        refine aops_nil ?_
        change Awp _ _ _ _ _
        refine awp_region 2 mixed (by kernel_rfl) ?_
        refine rg_q (q_add rfl rfl (In64.mk (by omega) (by omega))) ?_
        refine rg_q (q_move (x := .d (.v _)) rfl) ?_
        refine rg_nil ?_
        refine aops_nil ?_
        refine ⟨k + 1, by omega, by omega, ?_⟩
        exact le_head (ms := [6, 35]) (by repeat (first | exact Out.head rfl rfl | (refine Out.put ?_ rfl) | (refine Out.site ?_ rfl) | (refine Out.killS ?_ rfl) | (refine Out.ovD ?_ rfl))) ⟨(by rfl), trivial⟩ ⟨(by rfl), (by (show Site.row _ _ _ = Site.row _ _ _; rw [hs1])), trivial⟩ rfl rfl rfl rfl
      ·
        (try simp only [decide_eq_true_eq, decide_eq_false_iff_not, Bool.and_eq_true, Bool.or_eq_true, Bool.and_eq_false_iff, Bool.or_eq_false_iff, Bool.not_eq_true', Bool.not_eq_false', Bool.not_true, Bool.not_false, bif_and, bif_or, Bool.not_not, ne_eq, Decidable.not_not, not_true_eq_false, not_false_eq_true, Int.not_le, Int.not_lt] at hc6)
        have hkn : k = s.fl.length := by omega
        have hrow : (ptsF s k).map ptnC = (ptsS s).map ptnC := by unfold ptsF ptsS; rw [hkn, List.take_length]
        refine awp_exit ?_
        change Awp _ _ _ _ _
        refine awp_seq ?_
        refine Awp.le (le_freezeTB 6 35 12 (es := (ptsS s).map ptnC) rfl rfl (by show Site.row _ _ _ = _; rw [hrow]) rfl hmine) ?_
        refine Awp.le (le_boxT 6 (opnS s (ptsS s)) rfl rfl (by intro j d h; match j, h with | 0, h => cases h; rfl | 1, h => cases h; rfl | 2, h => cases h; rfl | 3, h => cases h; rfl | 4, h => cases h; rfl | 5, h => cases h; rfl | 6, h => cases h; rfl | 7, h => cases h; rfl | 8, h => cases h; rfl | 9, h => cases h; rfl | 10, h => cases h; rfl | 11, h => cases h; rfl | 12, h => cases h; rfl)) ?_
        refine awp_region 1 mixed (by kernel_rfl) ?_
        refine rg_q (q_load_refA sz136 rfl rfl rfl rfl) ?_
        refine rg_nil ?_
        refine aops_store sz136 rfl rfl (by exact .inr ⟨_, rfl⟩) rfl rfl (by decide) rfl ?_
        refine aops_q rfl (q_assign (x := .d (.v _)) rfl) ?_
        refine aops_nil ?_
        change Awp _ _ _ _ _
        refine awp_ret ?_
        refine ⟨_, (.cons (.cellA rfl rfl sz136 rfl) (.cons (.tmp (by exact .d _)) .nil)), ?_⟩
        rw [hz]; rfl
end Go.Proofs.Ytblbnagdhcpnoaa.Am.M
