/- Contracts over the abstract machine, joined. Conditions: none. -/
import Derived.Test.YtamaocfjknpadaaJ2
import Derived.Test.YtamaocfjknpadaaAmF
import Derived.Test.YtamaocfjknpadaaAm57
import Derived.Test.YtamaocfjknpadaaAm58
set_option linter.unusedVariables false
set_option linter.unusedSimpArgs false
-- mini
set_option maxRecDepth 100000
namespace Go.Proofs.Ytamaocfjknpadaa.Am.M
open Go

def opnS (s : Spc) (P : List ((Int × Int) × Int)) : List D := arrC s.ar ++ [.sl 1 (s.pl.map iC), .sl 3 (P.map ptnC)]
def ptA (P : List ((Int × Int) × Int)) (k : Nat) : (Int × Int) × Int := P.getD k ((0, 0), 0)
def smT (a : Arr) (pl : List Int) (pr : Int × Int) (P : List ((Int × Int) × Int)) : Nat → List Int
  | 0 => zI
  | k + 1 => adT (smT a pl pr P k) pl (ptA P k).2 (smpI a (ptA P k).1 pr) pl.length
theorem smT_len {a : Arr} {pl : List Int} {pr : Int × Int} {P : List ((Int × Int) × Int)} : ∀ k : Nat, (smT a pl pr P k).length = 64
  | 0 => rfl
  | k + 1 => by show (adT _ _ _ _ _).length = 64; rw [adT_len]; exact smT_len k
theorem amp_mul {pl : List Int} {x : Int} (hx : -1000 ≤ x ∧ x ≤ 1000) (hp : ∀ n ∈ pl, -100 ≤ n ∧ n ≤ 100) : ∀ n ∈ pl, -100000 ≤ x * n ∧ x * n ≤ 100000 := by
  intro n hn
  have h := hp n hn
  have := mulb (a := x) (b := n) (A := 1000) (B := 100) (by omega) (by omega) (by omega) (by omega)
  omega
theorem ptA_in {P : List ((Int × Int) × Int)} (h : ∀ q ∈ P, -1000 ≤ q.2 ∧ q.2 ≤ 1000) (k : Nat) : -1000 ≤ (ptA P k).2 ∧ (ptA P k).2 ≤ 1000 := by
  unfold ptA
  rw [List.getD_eq_getElem?_getD]
  cases hx : P[k]? with
  | none => exact ⟨by decide, by decide⟩
  | some q => exact h q (List.mem_of_getElem? hx)
theorem smT_in {a : Arr} {pl : List Int} {pr : Int × Int} {P : List ((Int × Int) × Int)} (hl : pl.length ≤ 16) (hp : ∀ n ∈ pl, -100 ≤ n ∧ n ≤ 100) (hP : ∀ q ∈ P, -1000 ≤ q.2 ∧ q.2 ≤ 1000) : ∀ k : Nat, ∀ v ∈ smT a pl pr P k, -(1600000 * (k : Int)) ≤ v ∧ v ≤ 1600000 * (k : Int)
  | 0, v, hv => by rw [List.eq_of_mem_replicate hv]; omega
  | k + 1, v, hv => by
    have ih := smT_in (a := a) (pr := pr) hl hp hP k
    have := adT_in (t := smpI a (ptA P k).1 pr) ih (amp_mul (ptA_in hP k) hp) pl.length v hv
    omega
theorem rnd_in {n b A : Int} (hA : 0 ≤ A) (h1 : -A ≤ n) (h2 : n ≤ A) (hb : 1 ≤ b) : -(A + 1) ≤ rndI n b ∧ rndI n b ≤ A + 1 := by
  unfold rndI
  have hm : A ≤ A * b := by
    have := Int.mul_le_mul_of_nonneg_left hb hA
    rw [Int.mul_one] at this; exact this
  have e1 : (A + 1) * (2 * b) = 2 * (A * b) + 2 * b := by grind
  have e2 : -(A + 1) * (2 * b) = -(2 * (A * b) + 2 * b) := by grind
  refine ⟨Int.le_ediv_of_mul_le (by omega) (by rw [e2]; omega), ?_⟩
  have : (2 * n + b) / (2 * b) < A + 1 + 1 := Int.ediv_lt_of_lt_mul (by omega) (by
    have e3 : (A + 1 + 1) * (2 * b) = 2 * (A * b) + 4 * b := by grind
    rw [e3]; omega)
  omega
theorem smp_in {a : Arr} (hok : ArrOk a) (t p : Int × Int) : -10000000000000 ≤ smpI a t p ∧ smpI a t p ≤ 10000000000000 := by
  have he := ech_in a t p
  have h := rnd_in (n := echI a t p - a.ts.1) (b := a.ts.2) (A := 1100000000000) (by decide) (by have := hok.t2; omega) (by have := hok.t1; omega) hok.t3
  unfold smpI; omega
def trcR (s : Spc) (P : List ((Int × Int) × Int)) (pr : Int × Int) : List D × Int := if (smT s.ar s.pl pr P P.length).any bigB = true then (z64, 8) else ((smT s.ar s.pl pr P P.length).map fv, 0)
theorem traceOf_p (s : Spc) (P : List ((Int × Int) × Int)) (pr : Int × Int) (hok : ArrOk s.ar) (hpk : (0 ≤ pr.1 ∧ pr.1 < s.ar.el.length) ∧ 0 ≤ pr.2 ∧ pr.2 < s.ar.el.length) (hpl : s.pl.length ≤ 16) (hpb : ∀ n ∈ s.pl, -100 ≤ n ∧ n ≤ 100) (hP : P.length ≤ 300) (hPa : ∀ q ∈ P, -1000 ≤ q.2 ∧ q.2 ≤ 1000) : PC Try.prog 48 [.agg (opnS s P), .agg (shC pr)] (.tup [.agg (trcR s P pr).1, .v (.int .i64 ((trcR s P pr).2))]) := by
 have hfl : ((smT s.ar s.pl pr P P.length).map fv).length = 64 := by rw [List.length_map, smT_len]
 refine pc_of_awpN Try.func48 rfl Try.ntmps48 (rs := [.cell 4 54, .tmp 5]) Try.results48 (by simp) fun w0 hmine hrnd hpn => ?_
 refine awp_seq ?_
 refine xa 2 ?_
 refine rg_q (q_box rfl (by exact .inr ⟨_, rfl⟩)) ?_
 refine rg_q (q_box rfl (by exact .inr ⟨_, rfl⟩)) ?_
 refine rg_nil ?_
 refine aops_alloc zr54 rfl rfl rfl ?_
 refine aops_q rfl (q_a rfl) ?_
 refine aops_nil (xq (xa 0 ?_))
 refine rg_nil ?_
 refine aops_alloc zr101 rfl rfl rfl ?_
 refine aops_nil (xq (awp_seq ?_))
 refine xa 4 ?_
 refine rg_q (q_fieldAddr fld105_2 rfl) (rg_q (q_load sz77 rfl rfl) ?_)
 refine rg_q (q_len isl77 rfl (by exact len_map _ _)) ?_
 refine rg_q (q_m rfl) ?_
 refine xc (awp_len (t := 11) rfl (fun hl11 => ?_))
 (try simp only [List.length_map] at hl11)
 refine awp_block ?_
 refine awp_loopH [8, 13, 14, 15, 16, 17, 18, 19, 20, 21, 22, 23, 24, 25, 26, 27, 28] [6] (α := Nat) (fun k => [(13, T.i (k : Int))]) (fun k => [(6, .box ((smT s.ar s.pl pr P k).map iv))]) (fun k => k ≤ P.length) (fun k => P.length - k) 0 (Nat.zero_le _) ?_ ?_
 · exact xh (ms := [6]) (by repeat (exact Out.refl _)) ⟨(by rfl), trivial⟩ ⟨(by rfl), trivial⟩
 ·
  intro k hk
  refine awp_seq ?_
  refine xa 1 ?_
  refine rg_q (q_lss rfl rfl) ?_
  refine rs (awp_cond rfl (fun hc3 => ?_) (fun hc3 => ?_))
  ·
   (try simp only [nb, ne_eq] at hc3)
   have hlt : k < P.length := by omega
   obtain ⟨y, hx⟩ : ∃ y, P[k]? = some y := ⟨_, List.getElem?_eq_getElem hlt⟩
   have hya := hPa y (List.mem_of_getElem? hx)
   have hpy : ptA P k = y := by unfold ptA; rw [List.getD_eq_getElem?_getD, hx]; rfl
   have hin := smT_in (a := s.ar) (pr := pr) hpl hpb hPa k
   have hst : adT (smT s.ar s.pl pr P k) s.pl y.2 (smpI s.ar y.1 pr) s.pl.length = smT s.ar s.pl pr P (k + 1) := by rw [← hpy]; rfl
   refine awp_skip ?_
   change Awp _ _ _ _ _
   refine awp_seq ?_
   refine awp_block ?_
   refine awp_seq ?_
   refine xa 2 ?_
   refine rg_q (q_indexAddr sl77 rfl rfl (by omega) (map_at (by omega) hx)) ?_
   refine rg_q (q_loadA (ds := [_, _, _]) sz82 rfl rfl rfl) ?_
   refine rg_nil ?_
   refine aops_alloc zr82 rfl rfl rfl ?_
   refine aops_store sz82 rfl rfl (by exact .inr ⟨_, rfl⟩) rfl rfl (by decide) rfl ?_
   refine aops_nil ?_
   change Awp _ _ _ _ _
   refine xa 10 ?_
   refine rg_q (q_fieldAddr fld105_1 rfl) (rg_q (q_load sz23 rfl rfl) (rg_q (q_fieldAddr_ref fld82_1 rfl) (rg_q (q_load_ref sz3 rfl rfl rfl) (rg_q (q_fieldAddr fld105_0 rfl) ?_))))
   refine rg_q (q_loadA (ds := [_, _, _, _, _, _, _, _, _, _, _]) sz91 rfl rfl rfl) ?_
   refine rg_q (q_fieldAddr_ref fld82_0 rfl) ?_
   refine rg_q (q_load_refA (ds := [_, _]) sz46 rfl rfl rfl rfl) ?_
   refine rg_q (q_loadA (ds := [_, _]) sz41 rfl rfl rfl) ?_
   refine rg_q (q_call en38 (.cons rfl (.cons rfl (.cons rfl .nil))) rfl (sample_p s.ar y.1 pr hok hpk)) ?_
   refine rg_nil ?_
   refine aops_callL [6] [] en44 (sampAdd_p (smT s.ar s.pl pr P k) s.pl y.2 (smpI s.ar y.1 pr) (1600000 * (k : Int)) (smT_len _) hin (by omega) (by omega) (amp_mul hya hpb) (smp_in hok _ _)) (.cons rfl (.cons rfl (.cons rfl (.cons rfl .nil)))) rfl rfl rfl (by repeat (first | exact trivial | refine ⟨rfl, ?_⟩)) (by repeat (exact trivial)) rfl ?_
   refine aops_nil ?_
   change Awp _ _ _ _ _
   refine xa 2 ?_
   refine rg_q (q_add rfl rfl xi) ?_
   refine rg_q (q_m rfl) ?_
   refine rn ?_
   refine ⟨k + 1, by omega, by omega, ?_⟩
   exact xh (ms := [6]) (by repeat (first | exact Out.head rfl rfl | (refine Out.put ?_ rfl) | (refine Out.site ?_ rfl) | (refine Out.called ?_ rfl rfl))) ⟨(by rfl), trivial⟩ ⟨(by (show Site.box _ = Site.box _; rw [hst])), trivial⟩
  ·
   (try simp only [nb, ne_eq] at hc3)
   have hkn : k = P.length := by omega
   subst hkn
   refine awp_exit ?_
   change Awp _ _ _ _ _
   refine awp_seq ?_
   refine awp_seq ?_
   refine Awp.le (le_freeze 6 6 0 (cs := (smT s.ar s.pl pr P P.length).map iv) rfl rfl rfl rfl hmine) ?_
   refine xa 2 ?_
   refine rg_q (q_call en54 (.cons rfl .nil) rfl (tooLarge_p (smT s.ar s.pl pr P P.length) (smT_len _))) ?_
   refine rg_q (q_a rfl) ?_
   refine rs (xa 2 ?_)
   refine rg_q (q_m rfl) (rg_q (q_neq rfl rfl) ?_)
   refine xc (awp_cond rfl (fun hc8 => ?_) (fun hc8 => ?_))
   ·
    (try simp only [nb, ne_eq] at hc8)
    have hz : trcR s P pr = (z64, 8) := by
     unfold trcR
     rw [if_pos]
     cases hb : (smT s.ar s.pl pr P P.length).any bigB with
     | true => rfl
     | false => rw [hb] at hc8; exact absurd rfl hc8
    have hw : whenI ((smT s.ar s.pl pr P P.length).any bigB) 8 = 8 := by
     cases hb : (smT s.ar s.pl pr P P.length).any bigB with
     | true => rfl
     | false => rw [hb] at hc8; exact absurd rfl hc8
    refine awp_seq ?_
    refine xa 2 ?_
    refine rg_q (q_buildA ar54 zr54 rfl .nil trivial rfl) ?_
    refine rg_q (q_m rfl) ?_
    refine rg_nil ?_
    refine aops_store sz54 rfl rfl (by exact .inr ⟨_, rfl⟩) rfl rfl (by decide) rfl ?_
    refine aops_q rfl (q_a rfl) ?_
    refine aops_nil ?_
    change Awp _ _ _ _ _
    refine awp_ret ?_
    refine ⟨_, (.cons (.cellA rfl rfl sz54 (by rfl)) xk1), ?_⟩
    rw [hz, hw]; rfl
   ·
    (try simp only [nb, ne_eq] at hc8)
    have hz : trcR s P pr = ((smT s.ar s.pl pr P P.length).map fv, 0) := by
     unfold trcR
     rw [if_neg]
     intro hb
     rw [hb] at hc8
     exact absurd hc8 (by decide)
    refine awp_skip ?_
    change Awp _ _ _ _ _
    refine awp_seq ?_
    refine xa 1 ?_
    refine rg_q (q_call en45 (.cons rfl .nil) rfl (trace_p (smT s.ar s.pl pr P P.length) (smT_len _))) ?_
    refine rg_nil ?_
    refine aops_store (cs' := (smT s.ar s.pl pr P P.length).map fv) sz54 rfl rfl (by exact .inr ⟨_, rfl⟩) hfl rfl (Nat.le_of_ble_eq_true rfl) (setCs_all hfl) ?_
    refine aops_q rfl (q_a rfl) ?_
    refine aops_nil ?_
    change Awp _ _ _ _ _
    refine awp_ret ?_
    refine ⟨_, (.cons (.cellA rfl rfl sz54 (by exact hfl)) xk1), ?_⟩
    rw [hz]; rfl
end Go.Proofs.Ytamaocfjknpadaa.Am.M
-- mini
set_option maxRecDepth 100000
namespace Go.Proofs.Ytamaocfjknpadaa.Am.M
open Go

section
variable {P : Program} {w0 : Cx} {ty : TypeId} {pos : String} {after : Array Edge}
def notDead : T → Bool
  | .dead => false
  | _ => true
theorem argsS_live {ev ev' : Operand → T} {f : Nat → Nat} {ys : List Operand} {xs : List T} (h : ArgsS ev f ys xs) (hx : ∀ y, ev y = .dead ∨ ev' y = ev y) (hd : xs.all notDead = true) : ArgsS ev' f ys xs := by
  induction h with
  | nil => exact .nil
  | @cons y ys x xs h _ ih =>
    simp only [List.all_cons, Bool.and_eq_true] at hd
    refine .cons ?_ (ih hd.2)
    rcases hx y with e | e
    · rw [e] at h
      cases x <;> first | (cases h; done) | (have := hd.1; simp [notDead] at this; done)
    · rw [e]; exact h
theorem c_callR {s : St} {ev : Operand → T} {d k e sz : Nat} {es es' : List (List D)} {f : FuncId} {ys : List Operand} {at_ : Array TypeId} {args : List T} (he : enB P f = true) (hr : PCS P f args [.row e sz es] (.rs 0) [.row e sz es'])
    (ha : ArgsS ev (nth [k]) ys args) (hnd : args.all notDead = true) (hk : s.s k = .row e sz es) (hc : callOk [k] args [.row e sz es] (.rs 0) [.row e sz es'] = true) :
    COp P w0 s ev ⟨some d, .call ⟨.value (.func f), ys.toArray, at_⟩, ty, pos, after, none⟩ (.grow k d (.row e sz es')) :=
  fun st hk' hn hev hd => step_of_aops rfl fun ops rest R h => by
    refine aops_callL [k] [k] he hr (argsS_live ha hev hnd) hc rfl rfl ⟨by rw [hk']; exact hk, trivial⟩ trivial (by simp only; rw [Nat.blt_eq, hn]; exact hd d rfl) ?_
    have e1 : afterS st [k] [k] [.row e sz es'] = (st.killS k).site k (.row e sz es') := by
      simp only [afterS, St.killS, St.site, St.mk.injEq, true_and]
      refine funext fun j => ?_
      by_cases hj : j = k
      · subst hj; simp [idxN, getS, shiftS]
      · have : Nat.beq j k = false := by rw [← Bool.not_eq_true]; exact fun e => hj (Nat.eq_of_beq_eq_true e)
        simp [idxN, this]
    rw [e1]
    exact h
end

def ptsF (s : Spc) (k : Nat) : List ((Int × Int) × Int) := (s.fl.take k).flatMap ptsL
def ptsS (s : Spc) : List ((Int × Int) × Int) := s.fl.flatMap ptsL
theorem ptsF_succ {s : Spc} {k : Nat} {y : Flw} (h : s.fl[k]? = some y) : ptsF s (k + 1) = ptsF s k ++ ptsL y := by
  obtain ⟨hlt, hx⟩ := List.getElem?_eq_some_iff.1 h
  unfold ptsF
  rw [List.take_succ_eq_append_getElem hlt, hx, List.flatMap_append]; simp
theorem ptsF_len {s : Spc} (h : ∀ x ∈ s.fl, FlwOk x) : ∀ k : Nat, k ≤ s.fl.length → (ptsF s k).length ≤ 21 * k
  | 0, _ => by unfold ptsF; simp
  | k + 1, hk => by
    have hx : s.fl[k]? = some s.fl[k] := List.getElem?_eq_getElem (by omega)
    have h1 := ptsL_len (h _ (List.mem_of_getElem? hx))
    have h2 := ptsF_len h k (by omega)
    rw [ptsF_succ hx, List.length_append]; omega
theorem ckFls_ok {t : Int} : ∀ {l : List Flw} {i : Nat}, (ckFls t i l).2 = 0 → ∀ x ∈ l, flwE x = 0
  | [], _, _, x, hx => by cases hx
  | y :: l, i, h, x, hx => by
    unfold ckFls at h
    by_cases h1 : flE t y ≠ 0
    · rw [if_pos h1] at h; exact absurd h h1
    · rw [if_neg h1] at h
      rcases List.mem_cons.1 hx with rfl | hx
      · have h2 := Decidable.not_not.1 h1
        unfold flE at h2
        by_cases h3 : firstE [flwE x, plateE x.at_.2 t] = 0
        · rw [first_zero] at h3
          exact h3 _ (by simp)
        · rw [if_neg (fun q => h3 q.1)] at h2; exact absurd h2 h3
      · exact ckFls_ok h x hx
structure SpcOk (s : Spc) : Prop where
  ar : ArrOk s.ar
  p1 : s.pl.length ≤ 16
  p2 : ∀ n ∈ s.pl, -100 ≤ n ∧ n ≤ 100
  f1 : s.fl.length ≤ 10
  fl : ∀ x ∈ s.fl, FlwOk x
theorem spc_ok {s : Spc} (h : (ckSpc s).2 = 0) : SpcOk s := by
  unfold ckSpc at h
  by_cases h1 : (ckArr s.ar).2 ≠ 0
  · rw [if_pos h1] at h; exact absurd h h1
  rw [if_neg h1] at h
  by_cases h2 : spcE0 s ≠ 0
  · rw [if_pos h2] at h; exact absurd h h2
  rw [if_neg h2] at h
  have h3 := Decidable.not_not.1 h2
  unfold spcE0 at h3
  rw [first_zero] at h3
  simp only [List.mem_cons, List.not_mem_nil, or_false, forall_eq_or_imp, forall_eq] at h3
  obtain ⟨_, e5, e6⟩ := plsE_ok h3.1
  have e7 := (when_zero (show (8 : Int) ≠ 0 by decide)).1 h3.2
  refine ⟨(ckArr_ok (Decidable.not_not.1 h1)).1, e5, fun n hn => ?_, ?_, fun x hx => flw_ok (ckFls_ok h x hx)⟩
  · have := pulse_all (a := 1) e6 (by omega) n hn
    have h8 : plsB n = false := by
      cases hb : plsB n with
      | false => rfl
      | true => rw [List.any_eq_true.2 ⟨n, hn, hb⟩] at e6; cases e6
    unfold plsB at h8
    simp [inR] at h8
    omega
  · have := of_decide_eq_false e7
    omega

def z0 : D := .v (.int .i64 0)
def zOp : List D := [.v (.slice none 0 0), z0, z0, z0, z0, z0, z0, z0, z0, z0, z0, .v (.slice none 0 0), .v (.slice none 0 0)]
def osR (s : Spc) : List D × Int := if (ckSpc s).2 ≠ 0 then (zOp, (ckSpc s).2) else (opnS s (ptsS s), 0)
theorem openSpecimen_p (s : Spc) : PC Try.prog 46 [.agg (spcC s)] (.tup [.agg (osR s).1, .v (.int .i64 ((osR s).2))]) := by
 refine pc_of_awpN Try.func46 rfl Try.ntmps46 (rs := [.cell 2 105, .tmp 3]) Try.results46 (by simp) fun w0 hmine hrnd hpn => ?_
 refine awp_seq ?_
 refine xa 1 ?_
 refine rg_q (q_box rfl (by exact .inr ⟨_, rfl⟩)) ?_
 refine rg_nil ?_
 refine aops_alloc zr105 rfl rfl rfl ?_
 refine aops_q rfl (q_a rfl) ?_
 refine aops_nil (xq (awp_seq ?_))
 refine xa 7 ?_
 refine rg_q (q_loadA sz40 rfl rfl rfl) ?_
 refine rg_q (q_call en50 (.cons rfl .nil) rfl (checkSpecimen_p _)) ?_
 refine rg_q (q_move (x := .d (.tup _)) rfl) (rg_q (q_extract rfl rfl) (rg_q (q_extract rfl rfl) (rg_q (q_a rfl) (rg_q (q_a rfl) ?_))))
 refine rs (xa 2 ?_)
 refine rg_q (q_m rfl) (rg_q (q_neq rfl rfl) ?_)
 refine xc (awp_cond rfl (fun hc2 => ?_) (fun hc2 => ?_))
 ·
  (try simp only [nb, ne_eq] at hc2)
  have h0 : (ckSpc s).2 ≠ 0 := hc2
  have hz : osR s = (zOp, (ckSpc s).2) := by unfold osR; rw [if_pos h0]
  refine awp_seq ?_
  refine xa 2 ?_
  refine rg_q (q_build pl105 zr105 rfl .nil trivial rfl) ?_
  refine rg_q (q_m rfl) ?_
  refine rg_nil ?_
  refine aops_store sz105 rfl rfl (by exact .inr ⟨_, rfl⟩) rfl rfl (by decide) rfl ?_
  refine aops_q rfl (q_a rfl) ?_
  refine aops_nil ?_
  change Awp _ _ _ _ _
  refine awp_ret ?_
  refine ⟨_, (.cons (.cellA rfl rfl sz105 rfl) xk1), ?_⟩
  rw [hz]; rfl
 ·
  (try simp only [nb, ne_eq] at hc2)
  have h0 : (ckSpc s).2 = 0 := by omega
  have hok := spc_ok h0
  have hf1 := hok.f1
  have hz : osR s = (opnS s (ptsS s), 0) := by unfold osR; rw [if_neg (fun q => q h0)]
  refine awp_skip ?_
  change Awp _ _ _ _ _
  refine awp_seq ?_
  refine xa 6 ?_
  refine rg_q (q_fieldAddr fld40_0 rfl) ?_
  refine rg_q (q_loadA (ds := [_, _, _, _, _, _, _, _, _, _, _]) sz37 rfl rfl rfl) ?_
  refine rg_q (q_build (cs := [_, _, _, _, _, _, _, _, _, _, _]) pl91 zr91 rfl (.cons rfl (by exact .inr ⟨_, rfl⟩) .nil) ⟨⟨rfl, by decide⟩, trivial⟩ rfl) ?_
  refine rg_q (q_fieldAddr fld40_1 rfl) (rg_q (q_load sz23 rfl rfl) ?_)
  refine rg_q (q_build pl105 zr105 rfl (.cons rfl (by exact .inr ⟨_, rfl⟩) (.cons rfl (by exact .inl rfl) .nil)) ⟨⟨rfl, by decide⟩, ⟨rfl, by decide⟩, trivial⟩ rfl) ?_
  refine rg_nil ?_
  refine aops_alloc zr105 rfl rfl rfl ?_
  refine aops_store sz105 rfl rfl (by exact .inr ⟨_, rfl⟩) rfl rfl (by decide) rfl ?_
  refine aops_nil (xq (awp_seq ?_))
  refine Awp.le (le_ownB 6 35 12 82 3 rfl rfl rfl) ?_
  refine xa 4 ?_
  refine rg_q (q_fieldAddr fld40_2 rfl) (rg_q (q_load sz38 rfl rfl) ?_)
  refine rg_q (q_len isl38 rfl (by exact len_map _ _)) ?_
  refine rg_q (q_m rfl) ?_
  refine xc (awp_len (t := 25) rfl (fun hl25 => ?_))
  (try simp only [List.length_map] at hl25)
  refine awp_block ?_
  refine awp_loopH [8, 27, 28, 29, 30, 31, 32, 33, 34, 35, 36, 37] [6, 35] (α := Nat) (fun k => [(27, T.i (k : Int))]) (fun k => [(6, .tbox [.d (.sl 2 (s.ar.el.map shC)), .d (.v (.int .i64 (s.ar.ou.w))), .d (.v (.int .i64 (s.ar.ou.m))), .d (.v (.int .i64 (s.ar.ou.k))), .d (.v (.int .i64 (s.ar.ou.t))), .d (.v (.int .i64 (s.ar.ba.w))), .d (.v (.int .i64 (s.ar.ba.m))), .d (.v (.int .i64 (s.ar.ba.k))), .d (.v (.int .i64 (s.ar.ba.t))), .d (.v (.int .i64 (s.ar.ts.1))), .d (.v (.int .i64 (s.ar.ts.2))), .d (.sl 1 (s.pl.map iC)), .rs 35]), (35, .row 82 3 ((ptsF s k).map ptnC))]) (fun k => k ≤ s.fl.length) (fun k => s.fl.length - k) 0 (Nat.zero_le _) ?_ ?_
  · exact xh (ms := [6, 35]) (by repeat (exact Out.refl _)) ⟨(by rfl), trivial⟩ ⟨(by rfl), (by rfl), trivial⟩
  ·
   intro k hk
   refine awp_seq ?_
   refine xa 1 ?_
   refine rg_q (q_lss rfl rfl) ?_
   refine rs (awp_cond rfl (fun hc6 => ?_) (fun hc6 => ?_))
   ·
    (try simp only [nb, ne_eq] at hc6)
    have hlt : k < s.fl.length := by omega
    obtain ⟨y, hx⟩ : ∃ y, s.fl[k]? = some y := ⟨_, List.getElem?_eq_getElem hlt⟩
    have hoky := hok.fl y (List.mem_of_getElem? hx)
    have hl1 := ptsL_len hoky
    have hl2 := ptsF_len hok.fl k (by omega)
    have hs1 : (ptsF s k ++ ptsL y).map ptnC = (ptsF s (k + 1)).map ptnC := by rw [ptsF_succ hx]
    refine awp_skip ?_
    change Awp _ _ _ _ _
    refine awp_seq ?_
    refine awp_block ?_
    refine awp_seq ?_
    refine xa 2 ?_
    refine rg_q (q_indexAddr sl38 rfl rfl (by omega) (map_at (by omega) hx)) ?_
    refine rg_q (q_loadA (ds := [_, _, _, _, _, _, _, _]) sz48 rfl rfl rfl) ?_
    refine rg_nil ?_
    refine aops_alloc zr48 rfl rfl rfl ?_
    refine aops_store sz48 rfl rfl (by exact .inr ⟨_, rfl⟩) rfl rfl (by decide) rfl ?_
    refine aops_nil ?_
    change Awp _ _ _ _ _
    refine awp_regionC 7 [0, 1, 4, 5, 6] [35, 6] mixed (by kernel_rfl) ?_
    refine rgc_c rfl rfl (c_q (q_fieldAddr_ref fld105_2 rfl)) ?_
    refine rgc_c rfl rfl (c_q (q_load_tb (x := .rs _) sz77 rfl rfl rfl)) ?_
    refine rgc_q rfl (q_load_refA (ds := [_, _, _, _, _, _, _, _]) sz48 rfl rfl rfl rfl) rfl ?_
    refine rgc_q rfl (q_call en60 (.cons rfl .nil) rfl (points_p _)) rfl ?_
    refine rgc_c rfl rfl (c_callR en73 (appendSeq_p (ptsF s k) (ptsL y) 82 [.pt (flwC y) 0] en82 (points_i y hoky) (by omega)) (.cons rfl (.cons rfl .nil)) rfl rfl rfl) ?_
    refine rgc_c rfl rfl (c_q (q_fieldAddr_ref fld105_2 rfl)) ?_
    refine rgc_c rfl rfl ((c_storeR sz77 rfl rfl rfl (by simp) rfl)) ?_
    refine rgc_nil ?_
    refine aops_nil ?_
    change Awp _ _ _ _ _
    refine xa 2 ?_
    refine rg_q (q_add rfl rfl xi) ?_
    refine rg_q (q_m rfl) ?_
    refine rn ?_
    refine ⟨k + 1, by omega, by omega, ?_⟩
    exact xh (ms := [6, 35]) (by repeat (first | exact Out.head rfl rfl | (refine Out.put ?_ rfl) | (refine Out.site ?_ rfl) | (refine Out.killS ?_ rfl) | (refine Out.ovD ?_ rfl))) ⟨(by rfl), trivial⟩ ⟨(by rfl), (by (show Site.row _ _ _ = Site.row _ _ _; rw [hs1])), trivial⟩
   ·
    (try simp only [nb, ne_eq] at hc6)
    have hkn : k = s.fl.length := by omega
    have hrow : (ptsF s k).map ptnC = (ptsS s).map ptnC := by unfold ptsF ptsS; rw [hkn, List.take_length]
    refine awp_exit ?_
    change Awp _ _ _ _ _
    refine awp_seq ?_
    refine Awp.le (le_freezeTB 6 35 12 (es := (ptsS s).map ptnC) rfl rfl (by show Site.row _ _ _ = _; rw [hrow]) rfl hmine) ?_
    refine Awp.le (le_boxT 6 (opnS s (ptsS s)) rfl rfl (by intro j d h; match j, h with | 0, h => cases h; rfl | 1, h => cases h; rfl | 2, h => cases h; rfl | 3, h => cases h; rfl | 4, h => cases h; rfl | 5, h => cases h; rfl | 6, h => cases h; rfl | 7, h => cases h; rfl | 8, h => cases h; rfl | 9, h => cases h; rfl | 10, h => cases h; rfl | 11, h => cases h; rfl | 12, h => cases h; rfl)) ?_
    refine xa 1 ?_
    refine rg_q (q_load_refA sz105 rfl rfl rfl rfl) ?_
    refine rg_nil ?_
    refine aops_store sz105 rfl rfl (by exact .inr ⟨_, rfl⟩) rfl rfl (by decide) rfl ?_
    refine aops_q rfl (q_a rfl) ?_
    refine aops_nil ?_
    change Awp _ _ _ _ _
    refine awp_ret ?_
    refine ⟨_, (.cons (.cellA rfl rfl sz105 rfl) xk1), ?_⟩
    rw [hz]; rfl
end Go.Proofs.Ytamaocfjknpadaa.Am.M
-- mini
set_option maxRecDepth 100000
namespace Go.Proofs.Ytamaocfjknpadaa.Am.M
open Go

theorem pts_amp {x : Flw} (h : FlwOk x) : ∀ q ∈ ptsL x, -1000 ≤ q.2 ∧ q.2 ≤ 1000 := by
  intro q hq
  unfold ptsL at hq
  split at hq
  · rw [List.mem_singleton.1 hq]; exact h.am
  · rename_i hk
    unfold ptsTo at hq
    obtain ⟨i, _, rfl⟩ := List.mem_map.1 hq
    have h1 := h.am
    have h2 := (h.pl hk).2.2.2
    unfold ptK
    simp only
    split
    · exact h2
    · exact h1
theorem ptsS_in {s : Spc} (h : SpcOk s) : (ptsS s).length ≤ 300 ∧ ∀ q ∈ ptsS s, -1000 ≤ q.2 ∧ q.2 ≤ 1000 := by
  refine ⟨?_, fun q hq => ?_⟩
  · have h1 := ptsF_len h.fl s.fl.length (Nat.le_refl _)
    have h2 : ptsF s s.fl.length = ptsS s := by unfold ptsF ptsS; rw [List.take_length]
    rw [h2] at h1
    have := h.f1
    omega
  · unfold ptsS at hq
    obtain ⟨x, hx, hq⟩ := List.mem_flatMap.1 hq
    exact pts_amp (h.fl x hx) q hq
def zM : Md := ⟨0, 0, 0, 0⟩
def zS : Spc := ⟨⟨[], zM, zM, (0, 0)⟩, [], []⟩
def tcR (s : Spc) (pr : Int × Int) : List D × Int := if (ckSpc s).2 ≠ 0 then (z64, (ckSpc s).2) else if pairE s.ar.el.length pr ≠ 0 then (z64, pairE s.ar.el.length pr) else trcR s (ptsS s) pr
theorem trcR_len (s : Spc) (P : List ((Int × Int) × Int)) (pr : Int × Int) : (trcR s P pr).1.length = 64 := by
  unfold trcR
  split
  · rfl
  · show ((smT s.ar s.pl pr P P.length).map fv).length = 64
    rw [List.length_map, smT_len]
theorem traceBad_p (s : Spc) (pr : Int × Int) (h0 : (ckSpc s).2 ≠ 0) : PC Try.prog 18 [.agg (spcC s), .agg (shC pr)] (.tup [.agg (tcR s pr).1, .v (.int .i64 ((tcR s pr).2))]) := by
 have hos : osR s = (zOp, (ckSpc s).2) := by unfold osR; rw [if_pos h0]
 have hz : tcR s pr = (z64, (ckSpc s).2) := by unfold tcR; rw [if_pos h0]
 have hfe : firstE [(ckSpc s).2, pairE zS.ar.el.length pr] = (ckSpc s).2 := by unfold firstE; rw [if_neg h0]
 refine pc_of_awp Try.func18 rfl Try.ntmps18 (rs := [.cell 4 54, .tmp 5]) Try.results18 (by simp) fun w0 => ?_
 refine awp_seq ?_
 refine xa 2 ?_
 refine rg_q (q_box rfl (by exact .inr ⟨_, rfl⟩)) ?_
 refine rg_q (q_box rfl (by exact .inr ⟨_, rfl⟩)) ?_
 refine rg_nil ?_
 refine aops_alloc zr54 rfl rfl rfl ?_
 refine aops_q rfl (q_a rfl) ?_
 refine aops_nil (xq (xa 5 ?_))
 refine rg_q (q_loadA sz40 rfl rfl rfl) ?_
 refine rg_q (q_call en46 (.cons rfl .nil) rfl ((by have h := openSpecimen_p s; rw [hos] at h; exact h))) ?_
 refine rg_q (q_move (x := .d (.tup _)) rfl) (rg_q (q_extract rfl rfl) (rg_q (q_extract rfl rfl) ?_))
 refine rg_nil ?_
 refine aops_alloc zr105 rfl rfl rfl ?_
 refine aops_store sz105 rfl rfl (by exact .inr ⟨_, rfl⟩) rfl rfl (by decide) rfl ?_
 refine aops_q rfl (q_a rfl) ?_
 refine aops_nil (xq (awp_seq ?_))
 refine Awp.le (le_upB 6 (opnS zS []) rfl (.cons (.nil 2) (.cons (.same _) (.cons (.same _) (.cons (.same _) (.cons (.same _) (.cons (.same _) (.cons (.same _) (.cons (.same _) (.cons (.same _) (.cons (.same _) (.cons (.same _) (.cons (.nil 1) (.cons (.nil 3) .nil)))))))))))))) ?_
 refine xa 8 ?_
 refine rg_q (q_m rfl) (rg_q (q_fieldAddr_ref fld105_0 rfl) ?_)
 refine rg_q (q_load_refA (ds := [_, _, _, _, _, _, _, _, _, _, _]) sz91 rfl rfl rfl rfl) ?_
 refine rg_q (q_loadA (ds := [_, _]) sz41 rfl rfl rfl) ?_
 refine rg_q (q_call en47 (.cons rfl (.cons rfl .nil)) rfl (pairErr_p zS.ar pr (Nat.zero_le _))) ?_
 refine rg_q (q_buildSlice sl131 zr24 rfl rfl (by decide) (.cons rfl (by exact .inl rfl) (.cons rfl (by exact .inl rfl) .nil)) ⟨rfl, rfl, rfl, rfl, trivial⟩ rfl (by decide) rfl) ?_
 refine rg_q (q_call en40 (.cons rfl .nil) rfl (bfirst_p [(ckSpc s).2, pairE zS.ar.el.length pr])) ?_
 refine rg_q (q_a rfl) ?_
 refine rs (xa 2 ?_)
 refine rg_q (q_m rfl) (rg_q (q_neq rfl rfl) ?_)
 refine xc (awp_cond rfl (fun hc3 => ?_) (fun hc3 => ?_))
 ·
  (try simp only [nb, ne_eq] at hc3)
  refine awp_seq ?_
  refine xa 2 ?_
  refine rg_q (q_buildA ar54 zr54 rfl .nil trivial rfl) ?_
  refine rg_q (q_m rfl) ?_
  refine rg_nil ?_
  refine aops_store sz54 rfl rfl (by exact .inr ⟨_, rfl⟩) rfl rfl (by decide) rfl ?_
  refine aops_q rfl (q_a rfl) ?_
  refine aops_nil ?_
  change Awp _ _ _ _ _
  refine awp_ret ?_
  refine ⟨_, (.cons (.cellA rfl rfl sz54 rfl) xk1), ?_⟩
  rw [hz, hfe]; rfl
 ·
  rw [hfe] at hc3
  exact absurd (Decidable.not_not.1 (of_decide_eq_false hc3)) h0
theorem traceOk_p (s : Spc) (pr : Int × Int) (h0 : (ckSpc s).2 = 0) : PC Try.prog 18 [.agg (spcC s), .agg (shC pr)] (.tup [.agg (tcR s pr).1, .v (.int .i64 ((tcR s pr).2))]) := by
 have hos : osR s = (opnS s (ptsS s), 0) := by unfold osR; rw [if_neg (fun q => q h0)]
 have hsp := spc_ok h0
 have hok := hsp.ar
 have hn2 := hok.n2
 obtain ⟨hp1, hp2⟩ := ptsS_in hsp
 have hfe : firstE [0, pairE s.ar.el.length pr] = pairE s.ar.el.length pr := by
  unfold firstE
  rw [if_pos rfl]
  unfold firstE
  by_cases q : pairE s.ar.el.length pr = 0
  · rw [if_pos q, q]; rfl
  · rw [if_neg q]
 have hlen := trcR_len s (ptsS s) pr
 refine pc_of_awp Try.func18 rfl Try.ntmps18 (rs := [.cell 4 54, .tmp 5]) Try.results18 (by simp) fun w0 => ?_
 refine awp_seq ?_
 refine xa 2 ?_
 refine rg_q (q_box rfl (by exact .inr ⟨_, rfl⟩)) ?_
 refine rg_q (q_box rfl (by exact .inr ⟨_, rfl⟩)) ?_
 refine rg_nil ?_
 refine aops_alloc zr54 rfl rfl rfl ?_
 refine aops_q rfl (q_a rfl) ?_
 refine aops_nil (xq (xa 5 ?_))
 refine rg_q (q_loadA sz40 rfl rfl rfl) ?_
 refine rg_q (q_call en46 (.cons rfl .nil) rfl ((by have h := openSpecimen_p s; rw [hos] at h; exact h))) ?_
 refine rg_q (q_move (x := .d (.tup _)) rfl) (rg_q (q_extract rfl rfl) (rg_q (q_extract rfl rfl) ?_))
 refine rg_nil ?_
 refine aops_alloc zr105 rfl rfl rfl ?_
 refine aops_store sz105 rfl rfl (by exact .inr ⟨_, rfl⟩) rfl rfl (by decide) rfl ?_
 refine aops_q rfl (q_a rfl) ?_
 refine aops_nil (xq (awp_seq ?_))
 refine xa 8 ?_
 refine rg_q (q_m rfl) (rg_q (q_fieldAddr_ref fld105_0 rfl) ?_)
 refine rg_q (q_load_refA (ds := [_, _, _, _, _, _, _, _, _, _, _]) sz91 rfl rfl rfl rfl) ?_
 refine rg_q (q_loadA (ds := [_, _]) sz41 rfl rfl rfl) ?_
 refine rg_q (q_call en47 (.cons rfl (.cons rfl .nil)) rfl (pairErr_p s.ar pr (by omega))) ?_
 refine rg_q (q_buildSlice sl131 zr24 rfl rfl (by decide) (.cons rfl (by exact .inl rfl) (.cons rfl (by exact .inl rfl) .nil)) ⟨rfl, rfl, rfl, rfl, trivial⟩ rfl (by decide) rfl) ?_
 refine rg_q (q_call en40 (.cons rfl .nil) rfl (bfirst_p [0, pairE s.ar.el.length pr])) ?_
 refine rg_q (q_a rfl) ?_
 refine rs (xa 2 ?_)
 refine rg_q (q_m rfl) (rg_q (q_neq rfl rfl) ?_)
 refine xc (awp_cond rfl (fun hc3 => ?_) (fun hc3 => ?_))
 ·
  (try simp only [nb, ne_eq] at hc3)
  rw [hfe] at hc3 ⊢
  have hz : tcR s pr = (z64, pairE s.ar.el.length pr) := by unfold tcR; rw [if_neg (fun q => q h0), if_pos hc3]
  refine awp_seq ?_
  refine xa 2 ?_
  refine rg_q (q_buildA ar54 zr54 rfl .nil trivial rfl) ?_
  refine rg_q (q_m rfl) ?_
  refine rg_nil ?_
  refine aops_store sz54 rfl rfl (by exact .inr ⟨_, rfl⟩) rfl rfl (by decide) rfl ?_
  refine aops_q rfl (q_a rfl) ?_
  refine aops_nil ?_
  change Awp _ _ _ _ _
  refine awp_ret ?_
  refine ⟨_, (.cons (.cellA rfl rfl sz54 (by rfl)) xk1), ?_⟩
  rw [hz]; rfl
 ·
  (try simp only [nb, ne_eq] at hc3)
  rw [hfe] at hc3
  have hp0 : pairE s.ar.el.length pr = 0 := hc3
  have hpk := pair_ok hp0
  have hz : tcR s pr = trcR s (ptsS s) pr := by unfold tcR; rw [if_neg (fun q => q h0), if_neg (fun q => q hp0)]
  refine awp_skip ?_
  change Awp _ _ _ _ _
  refine awp_seq ?_
  refine xa 5 ?_
  refine rg_q (q_load_refA sz105 rfl rfl rfl rfl) ?_
  refine rg_q (q_loadA (ds := [_, _]) sz41 rfl rfl rfl) ?_
  refine rg_q (q_call en48 (.cons rfl (.cons rfl .nil)) rfl (traceOf_p s (ptsS s) pr hok hpk hsp.p1 hsp.p2 hp1 hp2)) ?_
  refine rg_q (q_extract rfl rfl) (rg_q (q_extract rfl rfl) ?_)
  refine rg_nil ?_
  refine aops_store (cs' := (trcR s (ptsS s) pr).1) sz54 rfl rfl (by exact .inr ⟨_, rfl⟩) hlen rfl (Nat.le_of_ble_eq_true rfl) (setCs_all hlen) ?_
  refine aops_q rfl (q_a rfl) ?_
  refine aops_nil ?_
  change Awp _ _ _ _ _
  refine awp_ret ?_
  refine ⟨_, (.cons (.cellA rfl rfl sz54 (by exact hlen)) xk1), ?_⟩
  rw [hz]; rfl

theorem traceOfS_p (s : Spc) (pr : Int × Int) : PC Try.prog 18 [.agg (spcC s), .agg (shC pr)] (.tup [.agg (tcR s pr).1, .v (.int .i64 ((tcR s pr).2))]) := by
  by_cases h : (ckSpc s).2 = 0
  · exact traceOk_p s pr h
  · exact traceBad_p s pr h
end Go.Proofs.Ytamaocfjknpadaa.Am.M
-- mini
set_option maxRecDepth 100000
namespace Go.Proofs.Ytamaocfjknpadaa.Am.M
open Go

theorem eq38_low (a0 a1 b0 b1 : Int) (w : World) : (Op.equalIn (9998 + 1) 46 (.agg #[iW a0, iW a1]) (.agg #[iW b0, iW b1])).run Try.prog w = .ok (decide ([a0, a1] = [b0, b1])) w := by
  have hf : (Try.prog.fieldsOf 46).toList = [⟨ "X", 3, 0, false, "", "", 0⟩, ⟨ "Z", 3, 1, false, "", "", 8⟩] := by kernel_rfl
  rw [show (9998 + 1 : Nat) = 9997 + 1 + 1 from rfl, run_equalIn_struct w (9997 + 1) 46 _ _ (by kernel_rfl) (by kernel_rfl), hf]
  have u3 := Try.underlying3
  simp [Op.eqFields, part, isAgg, run_underlying u3, iW, run_equalIn_int, u3, Result.andThen]
  (repeat' split) <;> simp_all

theorem eqi82 : EqI Try.prog 82 3 := by
  intro xs ys hx hy w
  match xs, ys, hx, hy with
  | [a0, a1, a2], [b0, b1, b2], _, _ =>
    refine ⟨fun x y => run_eqGuard_agg w .eql 82 x y _ _ (by kernel_rfl), fun x y => run_eqGuard_agg w .neq 82 x y _ _ (by kernel_rfl), ?_⟩
    have hf : (Try.prog.fieldsOf 82).toList = [⟨ "At", 46, 0, false, "", "", 0⟩, ⟨ "Amplitude", 3, 2, false, "", "", 16⟩] := by kernel_rfl
    rw [show (10000 : Nat) = 9998 + 1 + 1 from rfl, run_equalIn_struct w (9998 + 1) 82 _ _ (by kernel_rfl) (by kernel_rfl), hf]
    have u3 := Try.underlying3
    have u46 := Try.underlying46
    have hl := eq38_low a0 a1 b0 b1 w
    simp only [iW] at hl
    simp [Op.eqFields, part, isAgg, run_underlying u3, run_underlying u46, iW, run_equalIn_int, u3, Result.andThen, hl]
    (repeat' split) <;> simp_all

section
variable {P : Program} {w0 : Cx} {n : Nat} {s : Nat → Site} {ev : Operand → T} {dst : Option Tmp} {ty : TypeId} {pos : String} {after : Array Edge} {g : Option (Nat × Bool)}
theorem q_fieldA {t : TypeId} {y : Operand} {f off m : Nat} {ft : TypeId} {cs ds : List D} (ht : (match P.underlying t with | some (.struct fs) => (fs[f]?).map (fun fd => (fd.offset, fd.type)) | _ => none) = some (off, ft)) (hs : szB P ft true m = true) (hy : ev y = .d (.agg cs)) (hd : (cs.drop off).take m = ds) (hl : ds.length = m) : QOp P w0 n s ev ⟨dst, .field t y f, ty, pos, after, g⟩ (.d (.agg ds)) :=
  .mk fun a w ok blk val h _ hnew => by
    subst hd
    obtain ⟨vs, hv, hL, hsc⟩ := agg_inv (show Rep w _ (.agg cs) (a.eval y) by have := h y; rw [hy] at this; exact this)
    have hlen : vs.length = cs.length := hL.length
    refine ⟨.agg ((vs.drop off).take m).toArray, w, ?_, Ext.refl w, ?_⟩
    · cases hu : P.underlying t with
      | none => simp [hu] at ht
      | some q =>
        cases q <;> simp only [hu, reduceCtorEq] at ht
        rename_i fs
        cases hf : fs[f]? with
        | none => simp [hf] at ht
        | some fd =>
          simp only [hf, Option.map_some, Option.some.injEq, Prod.mk.injEq] at ht
          obtain ⟨e1, e2⟩ := ht
          subst e1; subst e2
          simp [execOp, Instr.field, run_underlying hu, hf, hv, asAgg, part, szB_agg hs, szB_size hs]
    · refine Rep.agg _ _ (by rw [List.length_take, List.length_drop, List.length_take, List.length_drop, hlen]) (fun j d hj => ?_) (fun j d v hj hv => ?_)
      · rw [List.getElem?_take] at hj
        split at hj
        · rw [List.getElem?_drop] at hj; exact hsc _ d hj
        · cases hj
      · rw [List.getElem?_take] at hj hv
        split at hj
        · rename_i hjm
          rw [if_pos hjm, List.getElem?_drop] at hv
          rw [List.getElem?_drop] at hj
          exact hL.get _ d v hj hv
        · cases hj
end
theorem samePoints_p (l m : List ((Int × Int) × Int)) : PC Try.prog 30 [.sl 3 (l.map ptnC), .sl 3 (m.map ptnC)] (.v (.bool (decide (l = m)))) := by
 refine pc_of_awp Try.func30 rfl Try.ntmps30 (rs := [.tmp 4]) Try.results30 (by simp) fun w0 => ?_
 refine awp_seq ?_
 refine xa 1 ?_
 refine rg_q (q_a rfl) ?_
 refine rs (awp_seq ?_)
 refine xa 5 ?_
 refine rg_q (q_move (x := .d (.sl _ _)) rfl) ?_
 refine rg_q (q_len isl77 rfl (by exact len_map _ _)) ?_
 refine rg_q (q_move (x := .d (.sl _ _)) rfl) ?_
 refine rg_q (q_len isl77 rfl (by exact len_map _ _)) ?_
 refine rg_q (q_neq rfl rfl) ?_
 refine xc (awp_len (t := 6) rfl (fun hl6 => ?_))
 (try simp only [List.length_map] at hl6)
 refine awp_len (t := 8) rfl (fun hl8 => ?_)
 (try simp only [List.length_map] at hl8)
 refine awp_cond rfl (fun hc1 => ?_) (fun hc1 => ?_)
 ·
  (try simp only [nb, ne_eq] at hc1)
  have hz : decide (l = m) = false := decide_eq_false (fun e => by rw [e] at hc1; omega)
  refine awp_seq ?_
  refine xa 1 ?_
  refine rg_q (q_a rfl) ?_
  refine xc (awp_ret ?_)
  refine ⟨_, xk1, ?_⟩
  rw [hz]; rfl
 ·
  (try simp only [nb, ne_eq] at hc1)
  have hlm : l.length = m.length := by omega
  refine awp_skip ?_
  change Awp _ _ _ _ _
  refine awp_seq ?_
  refine awp_seq ?_
  refine xa 1 ?_
  refine rg_q (q_a rfl) ?_
  refine xc (awp_block ?_)
  refine awp_loopH [4, 5, 11, 12, 13, 14, 15, 16, 17, 18, 19, 20, 21, 22, 23, 24, 25] [] (α := Nat) (fun k => [(5, T.i (k : Int))]) (fun k => []) (fun k => k ≤ l.length ∧ l.take k = m.take k) (fun k => l.length - k) 0 ⟨Nat.zero_le _, rfl⟩ ?_ ?_
  · exact xh (ms := []) (by repeat (exact Out.refl _)) ⟨(by rfl), trivial⟩ trivial
  ·
   intro k ⟨hk, hf⟩
   refine awp_seq ?_
   refine awp_seq ?_
   refine xa 4 ?_
   refine rg_q (q_m rfl) (rg_q (q_move (x := .d (.sl _ _)) rfl) ?_)
   refine rg_q (q_len isl77 rfl (by exact len_map _ _)) ?_
   refine rg_q (q_lss rfl rfl) ?_
   refine xc (awp_len (t := 12) rfl (fun hl12 => ?_))
   (try simp only [List.length_map] at hl12)
   refine awp_cond rfl (fun hc4 => ?_) (fun hc4 => ?_)
   ·
    (try simp only [nb, ne_eq] at hc4)
    have hlt : k < l.length := by omega
    obtain ⟨x, hx⟩ : ∃ x, l[k]? = some x := ⟨_, List.getElem?_eq_getElem hlt⟩
    obtain ⟨y, hy⟩ : ∃ y, m[k]? = some y := ⟨_, List.getElem?_eq_getElem (by omega)⟩
    refine awp_skip ?_
    change Awp _ _ _ _ _
    refine awp_seq ?_
    refine awp_block ?_
    refine awp_seq ?_
    refine xa 9 ?_
    refine rg_q (q_move (x := .d (.sl _ _)) rfl) (rg_q (q_m rfl) ?_)
    refine rg_q (q_indexAddr sl77 rfl rfl (by omega) (map_at (k := k) (by omega) hx)) ?_
    refine rg_q (q_loadA (ds := [_, _, _]) sz82 rfl rfl rfl) ?_
    refine rg_q (q_move (x := .d (.sl _ _)) rfl) (rg_q (q_m rfl) ?_)
    refine rg_q (q_indexAddr sl77 rfl rfl (by omega) (map_at (k := k) (by omega) hy)) ?_
    refine rg_q (q_loadA (ds := [_, _, _]) sz82 rfl rfl rfl) ?_
    refine rg_q (q_neqI (xs := [_, _, _]) (ys := [_, _, _]) eqi82 rfl rfl rfl rfl) ?_
    refine xc (awp_cond rfl (fun hc6 => ?_) (fun hc6 => ?_))
    ·
     (try simp only [nb, ne_eq] at hc6)
     have hz : decide (l = m) = false := decide_eq_false (fun e => by rw [e, hy] at hx; have hxy := Option.some.inj hx; subst hxy; simp at hc6)
     refine awp_seq ?_
     refine xa 1 ?_
     refine rg_q (q_a rfl) ?_
     refine xc (awp_ret ?_)
     refine ⟨_, xk1, ?_⟩
     rw [hz]; rfl
    ·
     (try simp only [nb, ne_eq] at hc6)
     have hxy : x = y := by
      obtain ⟨⟨x1, x2⟩, x3⟩ := x
      obtain ⟨⟨y1, y2⟩, y3⟩ := y
      simp_all
     have hnx : l.take (k + 1) = m.take (k + 1) := by rw [List.take_succ_eq_append_getElem hlt, List.take_succ_eq_append_getElem (by omega), hf, (List.getElem?_eq_some_iff.1 hx).2, (List.getElem?_eq_some_iff.1 hy).2, hxy]
     refine awp_skip ?_
     change Awp _ _ _ _ _
     refine xa 3 ?_
     refine rg_q (q_m rfl) ?_
     refine rg_q (q_add rfl rfl xi) ?_
     refine rg_q (q_a rfl) ?_
     refine rn ?_
     refine ⟨k + 1, ⟨by omega, hnx⟩, by omega, ?_⟩
     exact xh (ms := []) (by repeat (first | exact Out.head rfl rfl | (refine Out.put ?_ rfl))) ⟨(by rfl), trivial⟩ trivial
   ·
    (try simp only [nb, ne_eq] at hc4)
    have hz : decide (l = m) = true := decide_eq_true (by rw [← List.take_of_length_le (l := l) (i := k) (by omega), hf, List.take_of_length_le (by omega)])
    refine awp_exit ?_
    change Awp _ _ _ _ _
    refine awp_seq ?_
    refine xa 1 ?_
    refine rg_q (q_a rfl) ?_
    refine xc (awp_ret ?_)
    refine ⟨_, xk1, ?_⟩
    rw [hz]; rfl

def oneM : Md := ⟨2500, 5000, 0, 1000⟩
def oneS : Spc := ⟨⟨[(0, -300)], oneM, oneM, (3900000, 50000)⟩, [3, -2], [⟨0, (0, 400), (0, 0), 0, 10, 0⟩]⟩
def exF : Flw := ⟨1, (0, 400), (30, 400), 4, 5, 2⟩
def exB : List Nat := 0 :: 0 :: 1106247680 :: 3248488448 :: List.replicate 60 0
theorem ex_ech : echR oneS.ar (0, 400) (0, 0) = (3999980, 0) := by decide +kernel
theorem ex_pof : pofR exF = ([((0, 400), 2), ((8, 400), 5), ((15, 400), 5), ((23, 400), 5), ((30, 400), 2)], 0) := by decide +kernel
theorem ex_smT : smT oneS.ar oneS.pl (0, 0) (ptsS oneS) (ptsS oneS).length = 0 :: 0 :: 30 :: -20 :: List.replicate 60 0 := by decide +kernel
theorem ex_tc : tcR oneS (0, 0) = (exB.map fd, 0) := by
  have h1 : (ckSpc oneS).2 = 0 := by decide +kernel
  have h2 : pairE oneS.ar.el.length (0, 0) = 0 := by decide +kernel
  unfold tcR
  rw [if_neg (fun q => q h1), if_neg (fun q => q h2)]
  unfold trcR
  rw [ex_smT, if_neg (by decide +kernel)]
  have h3 : (0 :: 0 :: 30 :: -20 :: List.replicate 60 0 : List Int).map FloatKind.f32.nearest = exB := by decide +kernel
  rw [← h3, List.map_map]; rfl
theorem one_p  : PC Try.prog 28 [] (.agg (spcC oneS)) := by
 refine pc_of_awp Try.func28 rfl Try.ntmps28 (rs := [.cell 0 40]) Try.results28 (by simp) fun w0 => ?_
 refine awp_seq ?_
 refine xa 0 ?_
 refine rg_nil ?_
 refine aops_alloc zr40 rfl rfl rfl ?_
 refine aops_nil (xq (xa 1 ?_))
 refine rg_q (q_build (cs := [_, _, _, _]) pl33 zr33 rfl (.cons rfl (by exact .inl rfl) (.cons rfl (by exact .inl rfl) (.cons rfl (by exact .inl rfl) .nil))) ⟨⟨rfl, by decide⟩, ⟨rfl, by decide⟩, ⟨rfl, by decide⟩, trivial⟩ rfl) ?_
 refine rg_nil ?_
 refine aops_alloc zr33 rfl rfl rfl ?_
 refine aops_store sz33 rfl rfl (by exact .inr ⟨_, rfl⟩) rfl rfl (by decide) rfl ?_
 refine aops_nil (xq (xa 11 ?_))
 refine rg_q (q_build (cs := [_, _]) pl46 zr46 rfl (.cons rfl (by exact .inl rfl) (.cons rfl (by exact .inl rfl) .nil)) ⟨⟨rfl, by decide⟩, ⟨rfl, by decide⟩, trivial⟩ rfl) ?_
 refine rg_q (q_buildSlice sl31 zr46 rfl rfl (by decide) (.cons rfl (by exact .inr ⟨_, rfl⟩) .nil) ⟨rfl, rfl, trivial⟩ rfl (by decide) rfl) ?_
 refine rg_q (q_load_refA (ds := [_, _, _, _]) sz33 rfl rfl rfl rfl) ?_
 refine rg_q (q_load_refA (ds := [_, _, _, _]) sz33 rfl rfl rfl rfl) ?_
 refine rg_q (q_build (cs := [_, _]) pl35 zr35 rfl (.cons rfl (by exact .inl rfl) (.cons rfl (by exact .inl rfl) .nil)) ⟨⟨rfl, by decide⟩, ⟨rfl, by decide⟩, trivial⟩ rfl) ?_
 refine rg_q (q_build (cs := [_, _, _, _, _, _, _, _, _, _, _]) pl37 zr37 rfl (.cons rfl (by exact .inl rfl) (.cons rfl (by exact .inr ⟨_, rfl⟩) (.cons rfl (by exact .inr ⟨_, rfl⟩) (.cons rfl (by exact .inr ⟨_, rfl⟩) .nil)))) ⟨⟨rfl, by decide⟩, ⟨rfl, by decide⟩, ⟨rfl, by decide⟩, ⟨rfl, by decide⟩, trivial⟩ rfl) ?_
 refine rg_q (q_buildSlice sl23 zr3 rfl rfl (by decide) (.cons rfl (by exact .inl rfl) (.cons rfl (by exact .inl rfl) .nil)) ⟨rfl, rfl, rfl, rfl, trivial⟩ rfl (by decide) rfl) ?_
 refine rg_q (q_build (cs := [_, _]) pl46 zr46 rfl (.cons rfl (by exact .inl rfl) (.cons rfl (by exact .inl rfl) .nil)) ⟨⟨rfl, by decide⟩, ⟨rfl, by decide⟩, trivial⟩ rfl) ?_
 refine rg_q (q_build (cs := [_, _, _, _, _, _, _, _]) pl48 zr48 rfl (.cons rfl (by exact .inr ⟨_, rfl⟩) (.cons rfl (by exact .inl rfl) .nil)) ⟨⟨rfl, by decide⟩, ⟨rfl, by decide⟩, trivial⟩ rfl) ?_
 refine rg_q (q_buildSlice sl38 zr48 rfl rfl (by decide) (.cons rfl (by exact .inr ⟨_, rfl⟩) .nil) ⟨rfl, rfl, trivial⟩ rfl (by decide) rfl) ?_
 refine rg_q (q_build pl40 zr40 rfl (.cons rfl (by exact .inr ⟨_, rfl⟩) (.cons rfl (by exact .inl rfl) (.cons rfl (by exact .inl rfl) .nil))) ⟨⟨rfl, by decide⟩, ⟨rfl, by decide⟩, ⟨rfl, by decide⟩, trivial⟩ rfl) ?_
 refine rg_nil ?_
 refine aops_store sz40 rfl rfl (by exact .inr ⟨_, rfl⟩) rfl rfl (by decide) rfl ?_
 refine aops_nil ?_
 change Awp _ _ _ _ _
 refine awp_ret ?_
 refine ⟨_, (.cons (.cellA rfl rfl sz40 rfl) .nil), ?_⟩
 rfl
theorem awake_p  : PC Try.prog 6 [] (.v (.bool (true))) := by
 refine pc_of_awpN Try.func6 rfl Try.ntmps6 (rs := [.tmp 0]) Try.results6 (by simp) fun w0 hmine hrnd hpn => ?_
 refine awp_seq ?_
 refine xa 1 ?_
 refine rg_q (q_a rfl) ?_
 refine rs (xa 10 ?_)
 refine rg_q (q_call en28 .nil rfl (one_p)) ?_
 refine rg_q (q_fieldA fd40_0 sz37 rfl rfl rfl) ?_
 refine rg_q (q_build (cs := [_, _]) pl46 zr46 rfl (.cons rfl (by exact .inl rfl) (.cons rfl (by exact .inl rfl) .nil)) ⟨⟨rfl, by decide⟩, ⟨rfl, by decide⟩, trivial⟩ rfl) ?_
 refine rg_q (q_buildA (cs := [_, _]) ar41 zr41 rfl .nil trivial rfl) ?_
 refine rg_q (q_call en27 (.cons rfl (.cons rfl (.cons rfl .nil))) rfl ((by have h := echoAt_p oneS.ar (0, 400) (0, 0); rw [ex_ech] at h; exact h))) ?_
 refine rg_q (q_move (x := .d (.tup _)) rfl) (rg_q (q_extract rfl rfl) (rg_q (q_extract rfl rfl) (rg_q (q_a rfl) (rg_q (q_a rfl) ?_))))
 refine rs (xa 6 ?_)
 refine rg_q (q_call en28 .nil rfl (one_p)) ?_
 refine rg_q (q_buildA (cs := [_, _]) ar41 zr41 rfl .nil trivial rfl) ?_
 refine rg_q (q_call en18 (.cons rfl (.cons rfl .nil)) rfl ((by have h := traceOfS_p oneS (0, 0); rw [ex_tc] at h; exact h))) ?_
 refine rg_q (q_move (x := .d (.tup _)) rfl) (rg_q (q_extract rfl rfl) (rg_q (q_extract rfl rfl) ?_))
 refine rg_nil ?_
 refine aops_alloc zr54 rfl rfl rfl ?_
 refine aops_store (cs' := exB.map fd) sz54 rfl rfl (by exact .inr ⟨_, rfl⟩) rfl rfl (Nat.le_of_ble_eq_true rfl) rfl ?_
 refine aops_q rfl (q_a rfl) ?_
 refine aops_nil (xq (xa 9 ?_))
 refine rg_q (q_build (cs := [_, _]) pl46 zr46 rfl (.cons rfl (by exact .inl rfl) (.cons rfl (by exact .inl rfl) .nil)) ⟨⟨rfl, by decide⟩, ⟨rfl, by decide⟩, trivial⟩ rfl) ?_
 refine rg_q (q_build (cs := [_, _]) pl46 zr46 rfl (.cons rfl (by exact .inl rfl) (.cons rfl (by exact .inl rfl) .nil)) ⟨⟨rfl, by decide⟩, ⟨rfl, by decide⟩, trivial⟩ rfl) ?_
 refine rg_q (q_build (cs := [_, _, _, _, _, _, _, _]) pl48 zr48 rfl (.cons rfl (by exact .inl rfl) (.cons rfl (by exact .inr ⟨_, rfl⟩) (.cons rfl (by exact .inr ⟨_, rfl⟩) (.cons rfl (by exact .inl rfl) (.cons rfl (by exact .inl rfl) (.cons rfl (by exact .inl rfl) .nil)))))) ⟨⟨rfl, by decide⟩, ⟨rfl, by decide⟩, ⟨rfl, by decide⟩, ⟨rfl, by decide⟩, ⟨rfl, by decide⟩, ⟨rfl, by decide⟩, trivial⟩ rfl) ?_
 refine rg_q (q_call en29 (.cons rfl .nil) rfl ((by have h := pointsOf_p exF; rw [ex_pof] at h; exact h))) ?_
 refine rg_q (q_move (x := .d (.tup _)) rfl) (rg_q (q_extract rfl rfl) (rg_q (q_extract rfl rfl) (rg_q (q_assign (x := .d (.sl _ _)) rfl) (rg_q (q_a rfl) ?_))))
 refine rs (xa 35 ?_)
 refine rg_q (q_m rfl) (rg_q (q_eql rfl rfl) (rg_q (q_m rfl) ?_))
 refine rg_g rfl rfl (fun hG => (q_m rfl)) ?_
 refine rg_g rfl rfl (fun hG => (q_eql rfl rfl)) ?_
 refine rg_pick rfl rfl rfl rfl rfl rfl ?_
 refine rg_q (q_m rfl) ?_
 refine rg_g rfl rfl (fun hG => (q_m rfl)) ?_
 refine rg_g rfl rfl (fun hG => (q_eql rfl rfl)) ?_
 refine rg_pick rfl rfl rfl rfl rfl rfl ?_
 refine rg_q (q_m rfl) ?_
 refine rg_g rfl rfl (fun hG => (q_load_refA sz54 rfl rfl rfl rfl)) ?_
 refine rg_g rfl rfl (fun hG => (q_buildA ar54 zr54 rfl (.cons rfl (by exact .inl rfl) (.cons rfl (by exact .inl rfl) .nil)) ⟨⟨rfl, by decide⟩, ⟨rfl, by decide⟩, trivial⟩ rfl)) ?_
 refine rg_g rfl rfl (fun hG => (q_call en20 (.cons rfl (.cons rfl .nil)) rfl (sameTrace_p exB exB rfl rfl))) ?_
 refine rg_pick rfl rfl rfl rfl rfl rfl ?_
 refine rg_q (q_m rfl) ?_
 refine rg_g rfl rfl (fun hG => (q_m rfl)) ?_
 refine rg_g rfl rfl (fun hG => (q_eql rfl rfl)) ?_
 refine rg_pick rfl rfl rfl rfl rfl rfl ?_
 refine rg_q (q_m rfl) ?_
 refine rg_g rfl rfl (fun hG => (q_move (x := .d (.sl _ _)) rfl)) ?_
 refine rg_g rfl rfl (fun hG => (q_build (cs := [_, _]) pl46 zr46 rfl (.cons rfl (by exact .inl rfl) (.cons rfl (by exact .inl rfl) .nil)) ⟨⟨rfl, by decide⟩, ⟨rfl, by decide⟩, trivial⟩ rfl)) ?_
 refine rg_g rfl rfl (fun hG => (q_build (cs := [_, _, _]) pl82 zr82 rfl (.cons rfl (by exact .inr ⟨_, rfl⟩) (.cons rfl (by exact .inl rfl) .nil)) ⟨⟨rfl, by decide⟩, ⟨rfl, by decide⟩, trivial⟩ rfl)) ?_
 refine rg_g rfl rfl (fun hG => (q_build (cs := [_, _]) pl46 zr46 rfl (.cons rfl (by exact .inl rfl) (.cons rfl (by exact .inl rfl) .nil)) ⟨⟨rfl, by decide⟩, ⟨rfl, by decide⟩, trivial⟩ rfl)) ?_
 refine rg_g rfl rfl (fun hG => (q_build (cs := [_, _, _]) pl82 zr82 rfl (.cons rfl (by exact .inr ⟨_, rfl⟩) (.cons rfl (by exact .inl rfl) .nil)) ⟨⟨rfl, by decide⟩, ⟨rfl, by decide⟩, trivial⟩ rfl)) ?_
 refine rg_g rfl rfl (fun hG => (q_build (cs := [_, _]) pl46 zr46 rfl (.cons rfl (by exact .inl rfl) (.cons rfl (by exact .inl rfl) .nil)) ⟨⟨rfl, by decide⟩, ⟨rfl, by decide⟩, trivial⟩ rfl)) ?_
 refine rg_g rfl rfl (fun hG => (q_build (cs := [_, _, _]) pl82 zr82 rfl (.cons rfl (by exact .inr ⟨_, rfl⟩) (.cons rfl (by exact .inl rfl) .nil)) ⟨⟨rfl, by decide⟩, ⟨rfl, by decide⟩, trivial⟩ rfl)) ?_
 refine rg_g rfl rfl (fun hG => (q_build (cs := [_, _]) pl46 zr46 rfl (.cons rfl (by exact .inl rfl) (.cons rfl (by exact .inl rfl) .nil)) ⟨⟨rfl, by decide⟩, ⟨rfl, by decide⟩, trivial⟩ rfl)) ?_
 refine rg_g rfl rfl (fun hG => (q_build (cs := [_, _, _]) pl82 zr82 rfl (.cons rfl (by exact .inr ⟨_, rfl⟩) (.cons rfl (by exact .inl rfl) .nil)) ⟨⟨rfl, by decide⟩, ⟨rfl, by decide⟩, trivial⟩ rfl)) ?_
 refine rg_g rfl rfl (fun hG => (q_build (cs := [_, _]) pl46 zr46 rfl (.cons rfl (by exact .inl rfl) (.cons rfl (by exact .inl rfl) .nil)) ⟨⟨rfl, by decide⟩, ⟨rfl, by decide⟩, trivial⟩ rfl)) ?_
 refine rg_g rfl rfl (fun hG => (q_build (cs := [_, _, _]) pl82 zr82 rfl (.cons rfl (by exact .inr ⟨_, rfl⟩) (.cons rfl (by exact .inl rfl) .nil)) ⟨⟨rfl, by decide⟩, ⟨rfl, by decide⟩, trivial⟩ rfl)) ?_
 refine rg_g rfl rfl (fun hG => (q_buildSlice sl77 zr82 rfl rfl (by decide) (.cons rfl (by exact .inr ⟨_, rfl⟩) (.cons rfl (by exact .inr ⟨_, rfl⟩) (.cons rfl (by exact .inr ⟨_, rfl⟩) (.cons rfl (by exact .inr ⟨_, rfl⟩) (.cons rfl (by exact .inr ⟨_, rfl⟩) .nil))))) ⟨rfl, rfl, rfl, rfl, rfl, rfl, rfl, rfl, rfl, rfl, trivial⟩ rfl (by decide) rfl)) ?_
 refine rg_g rfl rfl (fun hG => (q_call en30 (.cons rfl (.cons rfl .nil)) rfl (samePoints_p [((0, 400), 2), ((8, 400), 5), ((15, 400), 5), ((23, 400), 5), ((30, 400), 2)] [((0, 400), 2), ((8, 400), 5), ((15, 400), 5), ((23, 400), 5), ((30, 400), 2)]))) ?_
 refine rg_pick rfl rfl rfl rfl rfl rfl ?_
 refine rg_q (q_a rfl) ?_
 refine xc (awp_ret ?_)
 refine ⟨_, xk1, ?_⟩
 simp [retD]
end Go.Proofs.Ytamaocfjknpadaa.Am.M
-- mini
set_option maxRecDepth 100000
namespace Go.Proofs.Ytamaocfjknpadaa.Am.M
open Go
theorem copyInts4_p (l : List Int) (hl : l.length ≤ 1000) : PC Try.prog 17 [.sl 1 (l.map iC)] (.sl 1 (l.map iC)) := by
 refine pc_of_awp Try.func17 rfl Try.ntmps17 (rs := [.tmp 2]) Try.results17 (by simp) fun w0 => ?_
 refine awp_seq ?_
 refine xa 1 ?_
 refine rg_q (q_assign (x := .d (.sl _ _)) rfl) ?_
 refine rs (xa 0 ?_)
 refine rg_nil ?_
 refine aops_empty sl23 zr3 rfl rfl ?_
 refine aops_q rfl (q_move (x := .d (.sl _ _)) rfl) ?_
 refine aops_append sl23 zr3 by3 rfl (by decide) rfl rfl rfl rfl (by (try simp only [List.length_map, List.length_append, List.length_cons, List.length_nil]); omega) (by (try simp only [List.length_map, List.length_append, List.length_cons, List.length_nil]); omega) rfl rfl ?_
 refine aops_q rfl (q_assign (x := .rs _) rfl) ?_
 refine aops_nil ?_
 change Awp _ _ _ _ _
 refine awp_ret ?_
 refine ⟨_, (.cons (.tmp (by exact .rs rfl)) .nil), ?_⟩
 rfl

end Go.Proofs.Ytamaocfjknpadaa.Am.M
-- mini
set_option maxRecDepth 100000
namespace Go.Proofs.Ytamaocfjknpadaa.Am.M
open Go
theorem risSpot_p (p : Int × Int) : PC Try.prog 84 [.agg (shC p)] (.v (.bool ((inR (-100000) p.1 100000 && inR (-100000) p.2 100000)))) := by
 refine pc_of_awp Try.func84 rfl Try.ntmps84 (rs := [.tmp 2]) Try.results84 (by simp) fun w0 => ?_
 refine awp_seq ?_
 refine xa 2 ?_
 refine rg_q (q_box rfl (by exact .inr ⟨_, rfl⟩)) ?_
 refine rg_q (q_a rfl) ?_
 refine rs (xa 9 ?_)
 refine rg_q (q_fieldAddr fld46_0 rfl) (rg_q (q_load sz3 rfl rfl) ?_)
 refine rg_q (q_call en10 (.cons rfl (.cons rfl (.cons rfl .nil))) rfl (within4_p _ _ _)) ?_
 refine rg_q (q_m rfl) ?_
 refine rg_g rfl rfl (fun hG => (q_fieldAddr fld46_1 rfl)) ?_
 refine rg_g rfl rfl (fun hG => (q_load sz3 rfl rfl)) ?_
 refine rg_g rfl rfl (fun hG => (q_call en10 (.cons rfl (.cons rfl (.cons rfl .nil))) rfl (within4_p _ _ _))) ?_
 refine rg_pick rfl rfl rfl rfl rfl rfl ?_
 refine rg_q (q_a rfl) ?_
 refine xc (awp_ret ?_)
 refine ⟨_, xk1, ?_⟩
 simp only [bif_and]; rfl

theorem spotE_is (p : Int × Int) : spotE p = if (inR (-100000) p.1 100000 && inR (-100000) p.2 100000) = true then 0 else 2 := by
  by_cases h : spotE p = 0
  · rw [h]
    have := spot_ok.1 h
    rw [if_pos (by simp [inR]; omega)]
  · have h2 : spotE p = 2 := by
      unfold spotE mustI at h ⊢
      split at h
      · exact absurd rfl h
      · rename_i q; rw [if_neg q]
    rw [h2, if_neg]
    intro q
    simp [inR] at q
    exact h (spot_ok.2 (by omega))
theorem rcheckFlaw_p (x : Flw) : PC Try.prog 65 [.agg (flwC x)] (.v (.int .i64 (flwE x))) := by
  have s1 := spotE_is x.at_
  have s2 := spotE_is x.to_
  refine pc_of_awp Try.func65 rfl Try.ntmps65 (rs := [.tmp 2]) Try.results65 (by simp) fun w0 => ?_
  refine awp_seq ?_
  refine xa 2 ?_
  refine rg_q (q_box rfl (by exact .inr ⟨_, rfl⟩)) ?_
  refine rg_q (q_a rfl) ?_
  refine rs (awp_seq ?_)
  refine xa 8 ?_
  refine rg_q (q_fieldAddr fld48_0 rfl) (rg_q (q_load sz3 rfl rfl) (rg_q (q_neq rfl rfl) (rg_q (q_m rfl) ?_)))
  refine rg_g rfl rfl (fun hG => (q_fieldAddr fld48_0 rfl)) ?_
  refine rg_g rfl rfl (fun hG => (q_load sz3 rfl rfl)) ?_
  refine rg_g rfl rfl (fun hG => (q_neq rfl rfl)) ?_
  refine rg_pick rfl rfl rfl rfl rfl rfl ?_
  refine xc (awp_cond rfl (fun hc1 => ?_) (fun hc1 => ?_))
  ·
    (try simp only [nb, ne_eq] at hc1)
    have hz : flwE x = 15 := by unfold flwE; rw [if_pos (by omega)]
    refine awp_seq ?_
    refine xa 1 ?_
    refine rg_q (q_a rfl) ?_
    refine xc (awp_ret ?_)
    refine ⟨_, xk1, ?_⟩
    rw [hz]; rfl
  ·
    (try simp only [nb, ne_eq] at hc1)
    have hk : 0 ≤ x.kd ∧ x.kd ≤ 1 := by omega
    have hu : flwE x = if flwE0 x ≠ 0 then flwE0 x else if x.kd = 0 then poreE x else planeE x := by unfold flwE; rw [if_neg (fun h => h hk)]
    refine awp_skip ?_
    change Awp _ _ _ _ _
    refine awp_seq ?_
    refine awp_seq ?_
    refine xa 10 ?_
    refine rg_q (q_fieldAddr fld48_1 rfl) ?_
    refine rg_q (q_loadA (ds := [_, _]) sz46 rfl rfl rfl) ?_
    refine rg_q (q_call en84 (.cons rfl .nil) rfl (risSpot_p _)) ?_
    refine rg_q (q_not rfl) (rg_q (q_m rfl) ?_)
    refine rg_g rfl rfl (fun hG => (q_fieldAddr fld48_4 rfl)) ?_
    refine rg_g rfl rfl (fun hG => (q_load sz3 rfl rfl)) ?_
    refine rg_g rfl rfl (fun hG => (q_call en87 (.cons rfl .nil) rfl (risAmp_p _))) ?_
    refine rg_g rfl rfl (fun hG => (q_not rfl)) ?_
    refine rg_pick rfl rfl rfl rfl rfl rfl ?_
    refine xc (awp_cond rfl (fun hc3 => ?_) (fun hc3 => ?_))
    ·
      (try simp only [nb, ne_eq] at hc3)
      have hz0 : flwE0 x = 2 := by
        unfold flwE0
        rw [s1]
        rcases hc3 with q | q
        · rw [if_neg (by rcases q with q | q <;> rw [q] <;> simp)]; rfl
        · rw [q]
          by_cases q2 : (inR (-100000) x.at_.1 100000 && inR (-100000) x.at_.2 100000) = true
          · rw [if_pos q2]; rfl
          · rw [if_neg q2]; rfl
      have hz : flwE x = 2 := by rw [hu, hz0, if_pos (by decide)]
      refine awp_seq ?_
      refine xa 1 ?_
      refine rg_q (q_a rfl) ?_
      refine xc (awp_ret ?_)
      refine ⟨_, xk1, ?_⟩
      rw [hz]; rfl
    ·
      (try simp only [nb, ne_eq] at hc3)
      have hz0 : flwE0 x = 0 := by
        unfold flwE0
        rw [s1, hc3.2, if_pos (by simp_all)]; rfl
      have hu2 : flwE x = if x.kd = 0 then poreE x else planeE x := by rw [hu, hz0, if_neg (by simp)]
      refine awp_skip ?_
      change Awp _ _ _ _ _
      refine awp_seq ?_
      refine awp_seq ?_
      refine xa 3 ?_
      refine rg_q (q_fieldAddr fld48_0 rfl) (rg_q (q_load sz3 rfl rfl) (rg_q (q_eql rfl rfl) ?_))
      refine xc (awp_cond rfl (fun hc5 => ?_) (fun hc5 => ?_))
      ·
        (try simp only [nb, ne_eq] at hc5)
        rw [if_pos hc5] at hu2
        refine awp_seq ?_
        refine awp_seq ?_
        refine xa 14 ?_
        refine rg_q (q_fieldAddr fld48_2 rfl) ?_
        refine rg_q (q_loadA (ds := [_, _]) sz46 rfl rfl rfl) ?_
        refine rg_q (q_build (cs := [_, _]) pl46 zr46 rfl .nil trivial rfl) ?_
        refine rg_q (q_neqI (xs := [_, _]) (ys := [_, _]) eqi46 rfl rfl rfl rfl) ?_
        refine rg_q (q_m rfl) ?_
        refine rg_g rfl rfl (fun hG => (q_fieldAddr fld48_3 rfl)) ?_
        refine rg_g rfl rfl (fun hG => (q_load sz3 rfl rfl)) ?_
        refine rg_g rfl rfl (fun hG => (q_neq rfl rfl)) ?_
        refine rg_pick rfl rfl rfl rfl rfl rfl ?_
        refine rg_q (q_m rfl) ?_
        refine rg_g rfl rfl (fun hG => (q_fieldAddr fld48_5 rfl)) ?_
        refine rg_g rfl rfl (fun hG => (q_load sz3 rfl rfl)) ?_
        refine rg_g rfl rfl (fun hG => (q_neq rfl rfl)) ?_
        refine rg_pick rfl rfl rfl rfl rfl rfl ?_
        refine xc (awp_cond rfl (fun hc6 => ?_) (fun hc6 => ?_))
        ·
          (try simp only [nb, ne_eq] at hc6)
          have hz : flwE x = 3 := by
            rw [hu2]; unfold poreE whenI
            rw [if_pos]
            simp
            simp at hc6
            omega
          refine awp_seq ?_
          refine xa 1 ?_
          refine rg_q (q_a rfl) ?_
          refine xc (awp_ret ?_)
          refine ⟨_, xk1, ?_⟩
          rw [hz]; rfl
        ·
          (try simp only [nb, ne_eq] at hc6)
          have hz : flwE x = 0 := by
            rw [hu2]; unfold poreE whenI
            rw [if_neg]
            simp
            simp at hc6
            omega
          refine awp_skip ?_
          change Awp _ _ _ _ _
          refine awp_seq ?_
          refine xa 1 ?_
          refine rg_q (q_a rfl) ?_
          refine xc (awp_ret ?_)
          refine ⟨_, xk1, ?_⟩
          rw [hz]; rfl
      ·
        (try simp only [nb, ne_eq] at hc5)
        rw [if_neg hc5] at hu2
        refine awp_skip ?_
        change Awp _ _ _ _ _
        refine awp_seq ?_
        refine awp_seq ?_
        refine xa 16 ?_
        refine rg_q (q_fieldAddr fld48_2 rfl) ?_
        refine rg_q (q_loadA (ds := [_, _]) sz46 rfl rfl rfl) ?_
        refine rg_q (q_call en84 (.cons rfl .nil) rfl (risSpot_p _)) ?_
        refine rg_q (q_not rfl) (rg_q (q_m rfl) ?_)
        refine rg_g rfl rfl (fun hG => (q_fieldAddr fld48_3 rfl)) ?_
        refine rg_g rfl rfl (fun hG => (q_load sz3 rfl rfl)) ?_
        refine rg_g rfl rfl (fun hG => (q_call en10 (.cons rfl (.cons rfl (.cons rfl .nil))) rfl (within4_p _ _ _))) ?_
        refine rg_g rfl rfl (fun hG => (q_not rfl)) ?_
        refine rg_pick rfl rfl rfl rfl rfl rfl ?_
        refine rg_q (q_m rfl) ?_
        refine rg_g rfl rfl (fun hG => (q_fieldAddr fld48_5 rfl)) ?_
        refine rg_g rfl rfl (fun hG => (q_load sz3 rfl rfl)) ?_
        refine rg_g rfl rfl (fun hG => (q_call en87 (.cons rfl .nil) rfl (risAmp_p _))) ?_
        refine rg_g rfl rfl (fun hG => (q_not rfl)) ?_
        refine rg_pick rfl rfl rfl rfl rfl rfl ?_
        refine xc (awp_cond rfl (fun hc9 => ?_) (fun hc9 => ?_))
        ·
          (try simp only [nb, ne_eq] at hc9)
          have hz : flwE x = 2 := by
            rw [hu2]; unfold planeE; rw [s2]
            by_cases q : (inR (-100000) x.to_.1 100000 && inR (-100000) x.to_.2 100000) = true
            · have hb : (!inR 1 x.pc 20 || !inR (-1000) x.tp 1000) = true := by
                rcases hc9 with (q2 | q2) | q2
                · rw [Bool.and_eq_true] at q
                  rcases q2 with q2 | q2
                  · rw [q2] at q; cases q.1
                  · rw [q2] at q; cases q.2
                · rw [q2]; rfl
                · rw [q2]; simp
              rw [if_pos q, hb]; rfl
            · rw [if_neg q]; rfl
          refine awp_seq ?_
          refine xa 1 ?_
          refine rg_q (q_a rfl) ?_
          refine xc (awp_ret ?_)
          refine ⟨_, xk1, ?_⟩
          rw [hz]; rfl
        ·
          (try simp only [nb, ne_eq] at hc9)
          have hu3 : flwE x = whenI (decide ([x.to_.1, x.to_.2] = [x.at_.1, x.at_.2])) 11 := by
            rw [hu2]; unfold planeE
            obtain ⟨⟨⟨q0, q1⟩, q2⟩, q3⟩ := hc9
            rw [s2, q0, q1, q2, q3]
            show firstE [0, 0, _] = _
            unfold firstE; rw [if_pos rfl]
            unfold firstE; rw [if_pos rfl]
            unfold firstE
            split
            · rename_i q; rw [q]; rfl
            · rfl
          refine awp_skip ?_
          change Awp _ _ _ _ _
          refine awp_seq ?_
          refine awp_seq ?_
          refine xa 5 ?_
          refine rg_q (q_fieldAddr fld48_2 rfl) ?_
          refine rg_q (q_loadA (ds := [_, _]) sz46 rfl rfl rfl) ?_
          refine rg_q (q_fieldAddr fld48_1 rfl) ?_
          refine rg_q (q_loadA (ds := [_, _]) sz46 rfl rfl rfl) ?_
          refine rg_q (q_eqlI (xs := [_, _]) (ys := [_, _]) eqi46 rfl rfl rfl rfl) ?_
          refine xc (awp_cond rfl (fun hc11 => ?_) (fun hc11 => ?_))
          ·
            (try simp only [nb, ne_eq] at hc11)
            have hz : flwE x = 11 := by rw [hu3, decide_eq_true hc11]; rfl
            refine awp_seq ?_
            refine xa 1 ?_
            refine rg_q (q_a rfl) ?_
            refine xc (awp_ret ?_)
            refine ⟨_, xk1, ?_⟩
            rw [hz]; rfl
          ·
            (try simp only [nb, ne_eq] at hc11)
            have hz : flwE x = 0 := by rw [hu3, decide_eq_false hc11]; rfl
            refine awp_skip ?_
            change Awp _ _ _ _ _
            refine awp_seq ?_
            refine xa 1 ?_
            refine rg_q (q_a rfl) ?_
            refine xc (awp_ret ?_)
            refine ⟨_, xk1, ?_⟩
            rw [hz]; rfl
open Go
open Go

end Go.Proofs.Ytamaocfjknpadaa.Am.M
-- mini
set_option maxRecDepth 100000
namespace Go.Proofs.Ytamaocfjknpadaa.Am.M
open Go

theorem modeE_ref (m : Md) : (if firstE [speedE m.w, speedE m.m] ≠ 0 then firstE [speedE m.w, speedE m.m] else if (!inR 0 m.k 4 || !inR 2 m.t 20000) = true then 2 else 0) = modeE m := by
  unfold modeE mustI firstE
  by_cases h1 : speedE m.w = 0
  · simp only [firstE, h1, if_true]
    by_cases h2 : speedE m.m = 0
    · simp only [h2, if_true]
      cases inR 0 m.k 4 <;> cases inR 2 m.t 20000 <;> simp
    · simp [h2]
  · simp [firstE, h1]
theorem xspeedErr_p (v : Int) : PC Try.prog 99 [.v (.int .i64 (v))] (.v (.int .i64 (speedE v))) := by
 refine pc_of_awp Try.func99 rfl Try.ntmps99 (rs := [.tmp 2]) Try.results99 (by simp) fun w0 => ?_
 refine awp_seq ?_
 refine xa 1 ?_
 refine rg_q (q_a rfl) ?_
 refine rs (awp_seq ?_)
 refine xa 3 ?_
 refine rg_q (q_m rfl) ?_
 refine rg_q (q_call en10 (.cons rfl (.cons rfl (.cons rfl .nil))) rfl (within4_p _ _ _)) ?_
 refine rg_q (q_not rfl) ?_
 refine xc (awp_cond rfl (fun hc1 => ?_) (fun hc1 => ?_))
 ·
  (try simp only [nb, ne_eq] at hc1)
  have hz : speedE v = 2 := by unfold speedE mustI; rw [if_neg (by simp_all)]
  refine awp_seq ?_
  refine xa 1 ?_
  refine rg_q (q_a rfl) ?_
  refine xc (awp_ret ?_)
  refine ⟨_, xk1, ?_⟩
  rw [hz]; rfl
 ·
  (try simp only [nb, ne_eq] at hc1)
  have hz : speedE v = 0 := by unfold speedE mustI; rw [if_pos (by simp_all)]
  refine awp_skip ?_
  change Awp _ _ _ _ _
  refine awp_seq ?_
  refine xa 1 ?_
  refine rg_q (q_a rfl) ?_
  refine xc (awp_ret ?_)
  refine ⟨_, xk1, ?_⟩
  rw [hz]; rfl
theorem firstOf_p (l : List Int) : PC Try.prog 98 [.sl 1 (l.map iC)] (.v (.int .i64 (firstE l))) := by
 refine pc_of_awp Try.func98 rfl Try.ntmps98 (rs := [.tmp 2]) Try.results98 (by simp) fun w0 => ?_
 refine awp_seq ?_
 refine xa 1 ?_
 refine rg_q (q_a rfl) ?_
 refine rs (awp_seq ?_)
 refine xa 1 ?_
 refine rg_q (q_a rfl) ?_
 refine xc (awp_block ?_)
 refine awp_loopH [2, 3, 4, 5, 6, 7, 8, 9, 10, 11, 12, 13, 14, 15, 16, 17, 18] [] (α := Nat) (fun k => [(3, T.i (k : Int))]) (fun k => []) (fun k => k ≤ l.length ∧ firstE l = firstE (l.drop k)) (fun k => l.length - k) 0 ⟨Nat.zero_le _, rfl⟩ ?_ ?_
 · exact xh (ms := []) (by repeat (exact Out.refl _)) ⟨(by rfl), trivial⟩ trivial
 ·
  intro k ⟨hk, hf⟩
  refine awp_seq ?_
  refine awp_seq ?_
  refine xa 4 ?_
  refine rg_q (q_m rfl) (rg_q (q_move (x := .d (.sl _ _)) rfl) ?_)
  refine rg_q (q_len isl23 rfl (by exact len_map _ _)) ?_
  refine rg_q (q_lss rfl rfl) ?_
  refine xc (awp_len (t := 5) rfl (fun hl5 => ?_))
  (try simp only [List.length_map] at hl5)
  refine awp_cond rfl (fun hc2 => ?_) (fun hc2 => ?_)
  ·
   (try simp only [nb, ne_eq] at hc2)
   have hlt : k < l.length := by omega
   obtain ⟨y, hx⟩ : ∃ y, l[k]? = some y := ⟨_, List.getElem?_eq_getElem hlt⟩
   have hd : firstE (l.drop k) = if y = 0 then firstE (l.drop (k + 1)) else y := by
    rw [List.drop_eq_getElem_cons hlt, (List.getElem?_eq_some_iff.1 hx).2]; rfl
   refine awp_skip ?_
   change Awp _ _ _ _ _
   refine awp_seq ?_
   refine awp_block ?_
   refine awp_seq ?_
   refine xa 5 ?_
   refine rg_q (q_move (x := .d (.sl _ _)) rfl) (rg_q (q_m rfl) ?_)
   refine rg_q (q_indexAddr sl23 rfl rfl (by omega) (map_at (by omega) hx)) ?_
   refine rg_q (q_load sz3 rfl rfl) (rg_q (q_neq rfl rfl) ?_)
   refine xc (awp_cond rfl (fun hc4 => ?_) (fun hc4 => ?_))
   ·
    (try simp only [nb, ne_eq] at hc4)
    refine awp_seq ?_
    refine xa 5 ?_
    refine rg_q (q_move (x := .d (.sl _ _)) rfl) (rg_q (q_m rfl) ?_)
    refine rg_q (q_indexAddr sl23 rfl rfl (by omega) (map_at (by omega) hx)) ?_
    refine rg_q (q_load sz3 rfl rfl) (rg_q (q_a rfl) ?_)
    refine xc (awp_ret ?_)
    refine ⟨_, xk1, ?_⟩
    rw [hf, hd, if_neg (by omega)]; rfl
   ·
    (try simp only [nb, ne_eq] at hc4)
    refine awp_skip ?_
    change Awp _ _ _ _ _
    refine xa 3 ?_
    refine rg_q (q_m rfl) ?_
    refine rg_q (q_add rfl rfl xi) ?_
    refine rg_q (q_a rfl) ?_
    refine rn ?_
    refine ⟨k + 1, ⟨by omega, by rw [hf, hd, if_pos (by omega)]⟩, by omega, ?_⟩
    exact xh (ms := []) (by repeat (first | exact Out.head rfl rfl | (refine Out.put ?_ rfl))) ⟨(by rfl), trivial⟩ trivial
  ·
   (try simp only [nb, ne_eq] at hc2)
   refine awp_exit ?_
   change Awp _ _ _ _ _
   refine awp_seq ?_
   refine xa 1 ?_
   refine rg_q (q_a rfl) ?_
   refine xc (awp_ret ?_)
   refine ⟨_, xk1, ?_⟩
   rw [hf, List.drop_of_length_le (by omega)]; rfl
theorem xcheckMode_p (m : Md) : PC Try.prog 85 [.agg (mdC m)] (.v (.int .i64 (modeE m))) := by
 have hr := modeE_ref m
 refine pc_of_awp Try.func85 rfl Try.ntmps85 (rs := [.tmp 2]) Try.results85 (by simp) fun w0 => ?_
 refine awp_seq ?_
 refine xa 2 ?_
 refine rg_q (q_box rfl (by exact .inr ⟨_, rfl⟩)) ?_
 refine rg_q (q_a rfl) ?_
 refine rs (awp_seq ?_)
 refine xa 9 ?_
 refine rg_q (q_fieldAddr fld33_0 rfl) (rg_q (q_load sz3 rfl rfl) ?_)
 refine rg_q (q_call en99 (.cons rfl .nil) rfl (xspeedErr_p _)) ?_
 refine rg_q (q_fieldAddr fld33_1 rfl) (rg_q (q_load sz3 rfl rfl) ?_)
 refine rg_q (q_call en99 (.cons rfl .nil) rfl (xspeedErr_p _)) ?_
 refine rg_q (q_buildSlice sl23 zr3 rfl rfl (by decide) (.cons rfl (by exact .inl rfl) (.cons rfl (by exact .inl rfl) .nil)) ⟨rfl, rfl, rfl, rfl, trivial⟩ rfl (by decide) rfl) ?_
 refine rg_q (q_call en98 (.cons rfl .nil) rfl (firstOf_p [_, _])) ?_
 refine rg_q (q_a rfl) ?_
 refine rs (xa 2 ?_)
 refine rg_q (q_m rfl) (rg_q (q_neq rfl rfl) ?_)
 refine xc (awp_cond rfl (fun hc2 => ?_) (fun hc2 => ?_))
 ·
  (try simp only [nb, ne_eq] at hc2)
  rw [if_pos hc2] at hr
  refine awp_seq ?_
  refine xa 2 ?_
  refine rg_q (q_m rfl) (rg_q (q_a rfl) ?_)
  refine xc (awp_ret ?_)
  refine ⟨_, xk1, ?_⟩
  rw [← hr]; rfl
 ·
  (try simp only [nb, ne_eq] at hc2)
  rw [if_neg (fun h => h hc2)] at hr
  refine awp_skip ?_
  change Awp _ _ _ _ _
  refine awp_seq ?_
  refine awp_seq ?_
  refine xa 10 ?_
  refine rg_q (q_fieldAddr fld33_2 rfl) (rg_q (q_load sz3 rfl rfl) ?_)
  refine rg_q (q_call en10 (.cons rfl (.cons rfl (.cons rfl .nil))) rfl (within4_p _ _ _)) ?_
  refine rg_q (q_not rfl) (rg_q (q_m rfl) ?_)
  refine rg_g rfl rfl (fun hG => (q_fieldAddr fld33_3 rfl)) ?_
  refine rg_g rfl rfl (fun hG => (q_load sz3 rfl rfl)) ?_
  refine rg_g rfl rfl (fun hG => (q_call en10 (.cons rfl (.cons rfl (.cons rfl .nil))) rfl (within4_p _ _ _))) ?_
  refine rg_g rfl rfl (fun hG => (q_not rfl)) ?_
  refine rg_pick rfl rfl rfl rfl rfl rfl ?_
  refine xc (awp_cond rfl (fun hc4 => ?_) (fun hc4 => ?_))
  ·
   (try simp only [nb, ne_eq] at hc4)
   rw [if_pos (by simp_all)] at hr
   refine awp_seq ?_
   refine xa 1 ?_
   refine rg_q (q_a rfl) ?_
   refine xc (awp_ret ?_)
   refine ⟨_, xk1, ?_⟩
   rw [← hr]; rfl
  ·
   (try simp only [nb, ne_eq] at hc4)
   rw [if_neg (by simp_all)] at hr
   refine awp_skip ?_
   change Awp _ _ _ _ _
   refine awp_seq ?_
   refine xa 1 ?_
   refine rg_q (q_a rfl) ?_
   refine xc (awp_ret ?_)
   refine ⟨_, xk1, ?_⟩
   rw [← hr]; rfl

end Go.Proofs.Ytamaocfjknpadaa.Am.M
-- mini
set_option maxRecDepth 100000
namespace Go.Proofs.Ytamaocfjknpadaa.Am.M
open Go
theorem rcheckSampling_p (s : Int × Int) : PC Try.prog 86 [.agg (shC s)] (.v (.int .i64 (sampE s))) := by
 refine pc_of_awp Try.func86 rfl Try.ntmps86 (rs := [.tmp 2]) Try.results86 (by simp) fun w0 => ?_
 refine awp_seq ?_
 refine xa 2 ?_
 refine rg_q (q_box rfl (by exact .inr ⟨_, rfl⟩)) ?_
 refine rg_q (q_a rfl) ?_
 refine rs (awp_seq ?_)
 refine xa 10 ?_
 refine rg_q (q_fieldAddr fld35_0 rfl) (rg_q (q_load sz3 rfl rfl) ?_)
 refine rg_q (q_call en10 (.cons rfl (.cons rfl (.cons rfl .nil))) rfl (within4_p _ _ _)) ?_
 refine rg_q (q_not rfl) (rg_q (q_m rfl) ?_)
 refine rg_g rfl rfl (fun hG => (q_fieldAddr fld35_1 rfl)) ?_
 refine rg_g rfl rfl (fun hG => (q_load sz3 rfl rfl)) ?_
 refine rg_g rfl rfl (fun hG => (q_call en10 (.cons rfl (.cons rfl (.cons rfl .nil))) rfl (within4_p _ _ _))) ?_
 refine rg_g rfl rfl (fun hG => (q_not rfl)) ?_
 refine rg_pick rfl rfl rfl rfl rfl rfl ?_
 refine xc (awp_cond rfl (fun hc1 => ?_) (fun hc1 => ?_))
 ·
  (try simp only [nb, ne_eq] at hc1)
  have hz : sampE s = 2 := by unfold sampE; rw [if_neg (by intro h; simp_all)]
  refine awp_seq ?_
  refine xa 1 ?_
  refine rg_q (q_a rfl) ?_
  refine xc (awp_ret ?_)
  refine ⟨_, xk1, ?_⟩
  rw [hz]; rfl
 ·
  (try simp only [nb, ne_eq] at hc1)
  have hz : sampE s = 0 := by unfold sampE; rw [if_pos (by simp_all)]
  refine awp_skip ?_
  change Awp _ _ _ _ _
  refine awp_seq ?_
  refine xa 1 ?_
  refine rg_q (q_a rfl) ?_
  refine xc (awp_ret ?_)
  refine ⟨_, xk1, ?_⟩
  rw [hz]; rfl
theorem inPlate_p (a : Arr) (z : Int) (h1 : 2 ≤ a.ou.t) (h2 : a.ou.t ≤ 20000) : PC Try.prog 66 [.agg (arrC a), .v (.int .i64 (z))] (.v (.bool (inR 1 z (a.ou.t - 1)))) := by
 refine pc_of_awp Try.func66 rfl Try.ntmps66 (rs := [.tmp 4]) Try.results66 (by simp) fun w0 => ?_
 refine awp_seq ?_
 refine xa 2 ?_
 refine rg_q (q_box rfl (by exact .inr ⟨_, rfl⟩)) ?_
 refine rg_q (q_a rfl) ?_
 refine rs (xa 7 ?_)
 refine rg_q (q_m rfl) (rg_q (q_fieldAddr fld37_1 rfl) (rg_q (q_fieldAddr fld33_3 rfl) (rg_q (q_load sz3 rfl rfl) ?_)))
 refine rg_q (q_sub rfl rfl xi) ?_
 refine rg_q (q_call en10 (.cons rfl (.cons rfl (.cons rfl .nil))) rfl (within4_p _ _ _)) ?_
 refine rg_q (q_a rfl) ?_
 refine xc (awp_ret ?_)
 refine ⟨_, xk1, ?_⟩
 rfl

theorem elE_is (p : Int × Int) : elE p = if (inR (-100000) p.1 100000 && inR (-100000) p.2 100000) = true then (if 0 ≤ p.2 then 15 else 0) else 2 := by
  unfold elE
  rw [spotE_is p]
  by_cases h : (inR (-100000) p.1 100000 && inR (-100000) p.2 100000) = true
  · rw [if_pos h, if_pos h]
    unfold firstE; rw [if_pos rfl]
    unfold firstE whenI
    by_cases h2 : 0 ≤ p.2
    · simp [firstE, h2]
    · simp [firstE, h2]
  · rw [if_neg h, if_neg h]; rfl
theorem first4 (a b c d : Int) : firstE [a, b, c, d] = if a ≠ 0 then a else if b ≠ 0 then b else if c ≠ 0 then c else d := by
  unfold firstE
  by_cases h1 : a = 0
  · rw [if_pos h1, if_neg (fun q => q h1)]
    unfold firstE
    by_cases h2 : b = 0
    · rw [if_pos h2, if_neg (fun q => q h2)]
      unfold firstE
      by_cases h3 : c = 0
      · rw [if_pos h3, if_neg (fun q => q h3)]
        unfold firstE
        by_cases h4 : d = 0
        · rw [if_pos h4, h4]; rfl
        · rw [if_neg h4]
      · rw [if_neg h3, if_pos h3]
    · rw [if_neg h2, if_pos h2]
  · rw [if_neg h1, if_pos h1]
theorem rcheckArr_p (a : Arr) : PC Try.prog 63 [.agg (arrC a)] (.tup [.v (.int .i64 ((ckArr a).1)), .v (.int .i64 ((ckArr a).2))]) := by
 have hu : ckArr a = if a.el.length = 0 then (0, 10) else if 16 < a.el.length then (0, 8) else if (ckEls 0 a.el).2 ≠ 0 then ckEls 0 a.el else (0, arrE0 a) := rfl
 have h4 : arrE0 a = if modeE a.ou ≠ 0 then modeE a.ou else if modeE a.ba ≠ 0 then modeE a.ba else if whenI (decide (a.ou.t ≠ a.ba.t)) 23 ≠ 0 then whenI (decide (a.ou.t ≠ a.ba.t)) 23 else sampE a.ts := first4 _ _ _ _
 refine pc_of_awp Try.func63 rfl Try.ntmps63 (rs := [.tmp 2, .tmp 3]) Try.results63 (by simp) fun w0 => ?_
 refine awp_seq ?_
 refine xa 3 ?_
 refine rg_q (q_box rfl (by exact .inr ⟨_, rfl⟩)) ?_
 refine rg_q (q_a rfl) (rg_q (q_a rfl) ?_)
 refine rs (awp_seq ?_)
 refine xa 4 ?_
 refine rg_q (q_fieldAddr fld37_0 rfl) (rg_q (q_load sz31 rfl rfl) ?_)
 refine rg_q (q_len isl31 rfl (by exact len_map _ _)) ?_
 refine rg_q (q_eql rfl rfl) ?_
 refine xc (awp_len (t := 8) rfl (fun hl8 => ?_))
 (try simp only [List.length_map] at hl8)
 refine awp_cond rfl (fun hc1 => ?_) (fun hc1 => ?_)
 ·
  (try simp only [nb, ne_eq] at hc1)
  rw [if_pos (by omega)] at hu
  refine awp_seq ?_
  refine xa 2 ?_
  refine rg_q (q_a rfl) (rg_q (q_a rfl) ?_)
  refine xc (awp_ret ?_)
  refine ⟨_, xk2, ?_⟩
  rw [hu]; rfl
 ·
  (try simp only [nb, ne_eq] at hc1)
  rw [if_neg (by omega)] at hu
  refine awp_skip ?_
  change Awp _ _ _ _ _
  refine awp_seq ?_
  refine awp_seq ?_
  refine xa 4 ?_
  refine rg_q (q_fieldAddr fld37_0 rfl) (rg_q (q_load sz31 rfl rfl) ?_)
  refine rg_q (q_len isl31 rfl (by exact len_map _ _)) ?_
  refine rg_q (q_gtr rfl rfl) ?_
  refine xc (awp_len (t := 12) rfl (fun hl12 => ?_))
  (try simp only [List.length_map] at hl12)
  refine awp_cond rfl (fun hc3 => ?_) (fun hc3 => ?_)
  ·
   (try simp only [nb, ne_eq] at hc3)
   rw [if_pos (by omega)] at hu
   refine awp_seq ?_
   refine xa 2 ?_
   refine rg_q (q_a rfl) (rg_q (q_a rfl) ?_)
   refine xc (awp_ret ?_)
   refine ⟨_, xk2, ?_⟩
   rw [hu]; rfl
  ·
   (try simp only [nb, ne_eq] at hc3)
   rw [if_neg (by omega)] at hu
   refine awp_skip ?_
   change Awp _ _ _ _ _
   refine awp_seq ?_
   refine awp_seq ?_
   refine xa 1 ?_
   refine rg_q (q_a rfl) ?_
   refine xc (awp_block ?_)
   refine awp_loopH [2, 3, 4, 15, 16, 17, 18, 19, 20, 21, 22, 23, 24, 25, 26, 27, 28, 29, 30, 31, 32, 33, 34, 35, 36, 37] [] (α := Nat) (fun k => [(4, T.i (k : Int))]) (fun k => []) (fun k => k ≤ a.el.length ∧ ckEls 0 a.el = ckEls k (a.el.drop k)) (fun k => a.el.length - k) 0 ⟨Nat.zero_le _, rfl⟩ ?_ ?_
   · exact xh (ms := []) (by repeat (exact Out.refl _)) ⟨(by rfl), trivial⟩ trivial
   ·
    intro k ⟨hk, hf⟩
    refine awp_seq ?_
    refine awp_seq ?_
    refine xa 5 ?_
    refine rg_q (q_m rfl) (rg_q (q_fieldAddr fld37_0 rfl) (rg_q (q_load sz31 rfl rfl) ?_))
    refine rg_q (q_len isl31 rfl (by exact len_map _ _)) ?_
    refine rg_q (q_lss rfl rfl) ?_
    refine xc (awp_len (t := 17) rfl (fun hl17 => ?_))
    (try simp only [List.length_map] at hl17)
    refine awp_cond rfl (fun hc6 => ?_) (fun hc6 => ?_)
    ·
     (try simp only [nb, ne_eq] at hc6)
     have hlt : k < a.el.length := by omega
     obtain ⟨x, hx⟩ : ∃ x, a.el[k]? = some x := ⟨_, List.getElem?_eq_getElem hlt⟩
     have hd := ckEls_at hx
     have he := elE_is x
     refine awp_skip ?_
     change Awp _ _ _ _ _
     refine awp_seq ?_
     refine awp_block ?_
     refine awp_seq ?_
     refine awp_seq ?_
     refine xa 7 ?_
     refine rg_q (q_fieldAddr fld37_0 rfl) (rg_q (q_load sz31 rfl rfl) (rg_q (q_m rfl) ?_))
     refine rg_q (q_indexAddr sl31 rfl rfl (by omega) (map_at (by omega) hx)) ?_
     refine rg_q (q_loadA (ds := [_, _]) sz46 rfl rfl rfl) ?_
     refine rg_q (q_call en84 (.cons rfl .nil) rfl (risSpot_p _)) ?_
     refine rg_q (q_not rfl) ?_
     refine xc (awp_cond rfl (fun hc8 => ?_) (fun hc8 => ?_))
     ·
      (try simp only [nb, ne_eq] at hc8)
      rw [if_neg (by rcases hc8 with q | q <;> simp [q])] at he
      have hz : ckEls 0 a.el = ((k : Int), 2) := by rw [hf, hd, he]; rfl
      rw [hz] at hu
      refine awp_seq ?_
      refine xa 3 ?_
      refine rg_q (q_m rfl) (rg_q (q_a rfl) (rg_q (q_a rfl) ?_))
      refine xc (awp_ret ?_)
      refine ⟨_, xk2, ?_⟩
      rw [hu]; rfl
     ·
      (try simp only [nb, ne_eq] at hc8)
      rw [if_pos (by simp [hc8.1, hc8.2])] at he
      refine awp_skip ?_
      change Awp _ _ _ _ _
      refine awp_seq ?_
      refine xa 7 ?_
      refine rg_q (q_fieldAddr fld37_0 rfl) (rg_q (q_load sz31 rfl rfl) (rg_q (q_m rfl) ?_))
      refine rg_q (q_indexAddr sl31 rfl rfl (by omega) (map_at (by omega) hx)) ?_
      refine rg_q (q_fieldAddr fld46_1 rfl) (rg_q (q_load sz3 rfl rfl) (rg_q (q_geq rfl rfl) ?_))
      refine xc (awp_cond rfl (fun hc10 => ?_) (fun hc10 => ?_))
      ·
       (try simp only [nb, ne_eq] at hc10)
       rw [if_pos hc10] at he
       have hz : ckEls 0 a.el = ((k : Int), 15) := by rw [hf, hd, he]; rfl
       rw [hz] at hu
       refine awp_seq ?_
       refine xa 3 ?_
       refine rg_q (q_m rfl) (rg_q (q_a rfl) (rg_q (q_a rfl) ?_))
       refine xc (awp_ret ?_)
       refine ⟨_, xk2, ?_⟩
       rw [hu]; rfl
      ·
       (try simp only [nb, ne_eq] at hc10)
       rw [if_neg (by omega)] at he
       refine awp_skip ?_
       change Awp _ _ _ _ _
       refine xa 3 ?_
       refine rg_q (q_m rfl) ?_
       refine rg_q (q_add rfl rfl xi) ?_
       refine rg_q (q_a rfl) ?_
       refine rn ?_
       refine ⟨k + 1, ⟨by omega, by rw [hf, hd, if_neg (by rw [he]; simp)]⟩, by omega, ?_⟩
       exact xh (ms := []) (by repeat (first | exact Out.head rfl rfl | (refine Out.put ?_ rfl))) ⟨(by rfl), trivial⟩ trivial
    ·
     (try simp only [nb, ne_eq] at hc6)
     have hk0 : ckEls 0 a.el = (0, 0) := by rw [hf, List.drop_of_length_le (by omega)]; rfl
     rw [hk0, if_neg (by decide)] at hu
     refine awp_exit ?_
     change Awp _ _ _ _ _
     refine awp_seq ?_
     refine awp_seq ?_
     refine xa 4 ?_
     refine rg_q (q_fieldAddr fld37_1 rfl) ?_
     refine rg_q (q_loadA (ds := [_, _, _, _]) sz33 rfl rfl rfl) ?_
     refine rg_q (q_call en85 (.cons rfl .nil) rfl (xcheckMode_p a.ou)) ?_
     refine rg_q (q_a rfl) ?_
     refine rs (xa 2 ?_)
     refine rg_q (q_m rfl) (rg_q (q_neq rfl rfl) ?_)
     refine xc (awp_cond rfl (fun hc13 => ?_) (fun hc13 => ?_))
     ·
      (try simp only [nb, ne_eq] at hc13)
      rw [if_pos hc13] at h4
      refine awp_seq ?_
      refine xa 3 ?_
      refine rg_q (q_m rfl) (rg_q (q_a rfl) (rg_q (q_a rfl) ?_))
      refine xc (awp_ret ?_)
      refine ⟨_, xk2, ?_⟩
      rw [hu, h4]; rfl
     ·
      (try simp only [nb, ne_eq] at hc13)
      rw [if_neg (fun q => q hc13)] at h4
      refine awp_skip ?_
      change Awp _ _ _ _ _
      refine awp_seq ?_
      refine awp_seq ?_
      refine xa 4 ?_
      refine rg_q (q_fieldAddr fld37_2 rfl) ?_
      refine rg_q (q_loadA (ds := [_, _, _, _]) sz33 rfl rfl rfl) ?_
      refine rg_q (q_call en85 (.cons rfl .nil) rfl (xcheckMode_p a.ba)) ?_
      refine rg_q (q_a rfl) ?_
      refine rs (xa 2 ?_)
      refine rg_q (q_m rfl) (rg_q (q_neq rfl rfl) ?_)
      refine xc (awp_cond rfl (fun hc16 => ?_) (fun hc16 => ?_))
      ·
       (try simp only [nb, ne_eq] at hc16)
       rw [if_pos hc16] at h4
       refine awp_seq ?_
       refine xa 3 ?_
       refine rg_q (q_m rfl) (rg_q (q_a rfl) (rg_q (q_a rfl) ?_))
       refine xc (awp_ret ?_)
       refine ⟨_, xk2, ?_⟩
       rw [hu, h4]; rfl
      ·
       (try simp only [nb, ne_eq] at hc16)
       rw [if_neg (fun q => q hc16)] at h4
       refine awp_skip ?_
       change Awp _ _ _ _ _
       refine awp_seq ?_
       refine awp_seq ?_
       refine xa 7 ?_
       refine rg_q (q_fieldAddr fld37_1 rfl) (rg_q (q_fieldAddr fld33_3 rfl) (rg_q (q_load sz3 rfl rfl) (rg_q (q_fieldAddr fld37_2 rfl) (rg_q (q_fieldAddr fld33_3 rfl) (rg_q (q_load sz3 rfl rfl) ?_)))))
       refine rg_q (q_neq rfl rfl) ?_
       refine xc (awp_cond rfl (fun hc18 => ?_) (fun hc18 => ?_))
       ·
        (try simp only [nb, ne_eq] at hc18)
        have hw : whenI (decide (a.ou.t ≠ a.ba.t)) 23 = 23 := by unfold whenI; rw [if_pos (decide_eq_true hc18)]
        rw [hw, if_pos (by decide)] at h4
        refine awp_seq ?_
        refine xa 2 ?_
        refine rg_q (q_a rfl) (rg_q (q_a rfl) ?_)
        refine xc (awp_ret ?_)
        refine ⟨_, xk2, ?_⟩
        rw [hu, h4]; rfl
       ·
        (try simp only [nb, ne_eq] at hc18)
        have hw : whenI (decide (a.ou.t ≠ a.ba.t)) 23 = 0 := by unfold whenI; rw [if_neg (by simpa using hc18)]
        rw [hw, if_neg (by decide)] at h4
        refine awp_skip ?_
        change Awp _ _ _ _ _
        refine awp_seq ?_
        refine xa 5 ?_
        refine rg_q (q_fieldAddr fld37_3 rfl) ?_
        refine rg_q (q_loadA (ds := [_, _]) sz35 rfl rfl rfl) ?_
        refine rg_q (q_call en86 (.cons rfl .nil) rfl (rcheckSampling_p _)) ?_
        refine rg_q (q_a rfl) (rg_q (q_a rfl) ?_)
        refine xc (awp_ret ?_)
        refine ⟨_, xk2, ?_⟩
        rw [hu, h4]; rfl
theorem rpairErr_p (a : Arr) (p : Int × Int) (hl : a.el.length ≤ 1000) : PC Try.prog 13 [.agg (arrC a), .agg (shC p)] (.v (.int .i64 (pairE a.el.length p))) := by
 refine pc_of_awp Try.func13 rfl Try.ntmps13 (rs := [.tmp 4]) Try.results13 (by simp) fun w0 => ?_
 refine awp_seq ?_
 refine xa 3 ?_
 refine rg_q (q_box rfl (by exact .inr ⟨_, rfl⟩)) ?_
 refine rg_q (q_box rfl (by exact .inr ⟨_, rfl⟩)) ?_
 refine rg_q (q_a rfl) ?_
 refine rs (awp_seq ?_)
 refine xa 18 ?_
 refine rg_q (q_indexAddr_ar ar41 rfl rfl (by omega) (by omega)) ?_
 refine rg_q (q_load sz3 rfl rfl) (rg_q (q_fieldAddr fld37_0 rfl) (rg_q (q_load sz31 rfl rfl) ?_))
 refine rg_q (q_len isl31 rfl (by exact len_map _ _)) ?_
 refine rg_q (q_sub rfl rfl xi) ?_
 refine rg_q (q_call en10 (.cons rfl (.cons rfl (.cons rfl .nil))) rfl (within4_p _ _ _)) ?_
 refine rg_q (q_not rfl) (rg_q (q_m rfl) ?_)
 refine rg_g rfl rfl (fun hG => (q_indexAddr_ar ar41 rfl rfl (by (have hg0 := T.bool_inj (a := _) hG.1; (try simp only [nb, ne_eq] at hg0); omega)) (by (have hg0 := T.bool_inj (a := _) hG.1; (try simp only [nb, ne_eq] at hg0); omega)))) ?_
 refine rg_g rfl rfl (fun hG => (q_load sz3 rfl rfl)) ?_
 refine rg_g rfl rfl (fun hG => (q_fieldAddr fld37_0 rfl)) ?_
 refine rg_g rfl rfl (fun hG => (q_load sz31 rfl rfl)) ?_
 refine rg_g rfl rfl (fun hG => (q_len isl31 rfl (by exact len_map _ _))) ?_
 refine rg_g rfl rfl (fun hG => (q_sub rfl rfl (In64.mk (by (have hg0 := T.bool_inj (a := _) hG.1; (try simp only [nb, ne_eq] at hg0); omega)) (by (have hg0 := T.bool_inj (a := _) hG.1; (try simp only [nb, ne_eq] at hg0); omega))))) ?_
 refine rg_g rfl rfl (fun hG => (q_call en10 (.cons rfl (.cons rfl (.cons rfl .nil))) rfl (within4_p _ _ _))) ?_
 refine rg_g rfl rfl (fun hG => (q_not rfl)) ?_
 refine rg_pick rfl rfl rfl rfl rfl rfl ?_
 refine xc (awp_len (t := 8) rfl (fun hl8 => ?_))
 (try simp only [List.length_map] at hl8)
 refine awp_cond rfl (fun hc1 => ?_) (fun hc1 => ?_)
 ·
  (try simp only [nb, ne_eq] at hc1)
  have hz : pairE a.el.length p = 6 := by unfold pairE whenI; rw [if_pos (by rcases hc1 with q | q <;> simp [q])]
  refine awp_seq ?_
  refine xa 1 ?_
  refine rg_q (q_a rfl) ?_
  refine xc (awp_ret ?_)
  refine ⟨_, xk1, ?_⟩
  rw [hz]; rfl
 ·
  (try simp only [nb, ne_eq] at hc1)
  have hz : pairE a.el.length p = 0 := by unfold pairE whenI; rw [if_neg (by simp_all)]
  refine awp_skip ?_
  change Awp _ _ _ _ _
  refine awp_seq ?_
  refine xa 1 ?_
  refine rg_q (q_a rfl) ?_
  refine xc (awp_ret ?_)
  refine ⟨_, xk1, ?_⟩
  rw [hz]; rfl

theorem plateE_is (z t : Int) : plateE z t = if inR 1 z (t - 1) = true then 0 else 22 := rfl
theorem flE_is (t : Int) (x : Flw) : flE t x = if flwE x ≠ 0 then flwE x else if inR 1 x.at_.2 (t - 1) = false ∨ (x.kd = 1 ∧ inR 1 x.to_.2 (t - 1) = false) then 22 else 0 := by
  unfold flE
  by_cases h0 : flwE x = 0
  · have hr : ∀ a b : Int, (if flwE x ≠ 0 then a else b) = b := fun a b => if_neg (fun q => q h0)
    rw [hr]
    by_cases h1 : inR 1 x.at_.2 (t - 1) = true
    · have e : firstE [flwE x, plateE x.at_.2 t] = 0 := by
        unfold firstE; rw [if_pos h0]
        unfold firstE; rw [if_pos (by rw [plateE_is, if_pos h1])]; rfl
      by_cases hk : x.kd = 1
      · rw [if_pos ⟨e, hk⟩, plateE_is]
        by_cases h2 : inR 1 x.to_.2 (t - 1) = true
        · rw [if_pos h2, if_neg]
          rintro (q | ⟨_, q⟩)
          · rw [h1] at q; cases q
          · rw [h2] at q; cases q
        · rw [if_neg h2, if_pos (.inr ⟨hk, by simpa using h2⟩)]
      · rw [if_neg (fun q => hk q.2), e, if_neg]
        rintro (q | ⟨q, _⟩)
        · rw [h1] at q; cases q
        · exact hk q
    · have e : firstE [flwE x, plateE x.at_.2 t] = 22 := by
        unfold firstE; rw [if_pos h0]
        unfold firstE; rw [plateE_is, if_neg h1]; rfl
      rw [if_neg (fun q => by rw [e] at q; exact absurd q.1 (by decide)), e, if_pos (.inl (by simpa using h1))]
  · have e : firstE [flwE x, plateE x.at_.2 t] = flwE x := by unfold firstE; rw [if_neg h0]
    have hr : ∀ a b : Int, (if flwE x ≠ 0 then a else b) = a := fun a b => if_pos h0
    rw [hr, if_neg (fun q => h0 (e ▸ q.1)), e]
theorem rcheckSpc_p (s : Spc) : PC Try.prog 36 [.agg (spcC s)] (.tup [.v (.int .i64 ((ckSpc s).1)), .v (.int .i64 ((ckSpc s).2))]) := by
  have hu : ckSpc s = if (ckArr s.ar).2 ≠ 0 then ckArr s.ar else if spcE0 s ≠ 0 then (0, spcE0 s) else ckFls s.ar.ou.t 0 s.fl := rfl
  have h2 : spcE0 s = if plsE s.pl ≠ 0 then plsE s.pl else whenI (decide (10 < (s.fl.length : Int))) 8 := by
    unfold spcE0 firstE
    by_cases q : plsE s.pl = 0
    · rw [if_pos q, if_neg (fun h => h q)]
      unfold firstE
      split
      · rename_i q2; rw [q2]; rfl
      · rfl
    · rw [if_neg q, if_pos q]
  refine pc_of_awp Try.func36 rfl Try.ntmps36 (rs := [.tmp 2, .tmp 3]) Try.results36 (by simp) fun w0 => ?_
  refine awp_seq ?_
  refine xa 3 ?_
  refine rg_q (q_box rfl (by exact .inr ⟨_, rfl⟩)) ?_
  refine rg_q (q_a rfl) (rg_q (q_a rfl) ?_)
  refine rs (awp_seq ?_)
  refine xa 8 ?_
  refine rg_q (q_fieldAddr fld40_0 rfl) ?_
  refine rg_q (q_loadA (ds := [_, _, _, _, _, _, _, _, _, _, _]) sz37 rfl rfl rfl) ?_
  refine rg_q (q_call en63 (.cons rfl .nil) rfl (rcheckArr_p s.ar)) ?_
  refine rg_q (q_move (x := .d (.tup _)) rfl) (rg_q (q_extract rfl rfl) (rg_q (q_extract rfl rfl) (rg_q (q_a rfl) (rg_q (q_a rfl) ?_))))
  refine rs (xa 2 ?_)
  refine rg_q (q_m rfl) (rg_q (q_neq rfl rfl) ?_)
  refine xc (awp_cond rfl (fun hc2 => ?_) (fun hc2 => ?_))
  ·
    (try simp only [nb, ne_eq] at hc2)
    rw [if_pos hc2] at hu
    refine awp_seq ?_
    refine xa 4 ?_
    refine rg_q (q_m rfl) (rg_q (q_m rfl) (rg_q (q_a rfl) (rg_q (q_a rfl) ?_)))
    refine xc (awp_ret ?_)
    refine ⟨_, xk2, ?_⟩
    rw [hu]; rfl
  ·
    (try simp only [nb, ne_eq] at hc2)
    have hck : (ckArr s.ar).2 = 0 := by simpa using hc2
    have hok := (ckArr_ok hck).1
    have ht1 := hok.ou.t1
    have ht2 := hok.ou.t2
    rw [if_neg (fun q => q hck)] at hu
    refine awp_skip ?_
    change Awp _ _ _ _ _
    refine awp_seq ?_
    refine awp_seq ?_
    refine xa 4 ?_
    refine rg_q (q_fieldAddr fld40_1 rfl) (rg_q (q_load sz23 rfl rfl) ?_)
    refine rg_q (q_call en64 (.cons rfl .nil) rfl (rpulseErr_p _)) ?_
    refine rg_q (q_a rfl) ?_
    refine rs (xa 2 ?_)
    refine rg_q (q_m rfl) (rg_q (q_neq rfl rfl) ?_)
    refine xc (awp_cond rfl (fun hc5 => ?_) (fun hc5 => ?_))
    ·
      (try simp only [nb, ne_eq] at hc5)
      rw [if_pos hc5] at h2
      rw [h2, if_pos hc5] at hu
      refine awp_seq ?_
      refine xa 3 ?_
      refine rg_q (q_m rfl) (rg_q (q_a rfl) (rg_q (q_a rfl) ?_))
      refine xc (awp_ret ?_)
      refine ⟨_, xk2, ?_⟩
      rw [hu]; rfl
    ·
      (try simp only [nb, ne_eq] at hc5)
      rw [if_neg (fun q => q hc5)] at h2
      refine awp_skip ?_
      change Awp _ _ _ _ _
      refine awp_seq ?_
      refine awp_seq ?_
      refine xa 4 ?_
      refine rg_q (q_fieldAddr fld40_2 rfl) (rg_q (q_load sz38 rfl rfl) ?_)
      refine rg_q (q_len isl38 rfl (by exact len_map _ _)) ?_
      refine rg_q (q_gtr rfl rfl) ?_
      refine xc (awp_len (t := 27) rfl (fun hl27 => ?_))
      (try simp only [List.length_map] at hl27)
      refine awp_cond rfl (fun hc7 => ?_) (fun hc7 => ?_)
      ·
        (try simp only [nb, ne_eq] at hc7)
        have hw : whenI (decide (10 < (s.fl.length : Int))) 8 = 8 := by unfold whenI; rw [if_pos (decide_eq_true hc7)]
        rw [h2, hw, if_pos (by decide)] at hu
        refine awp_seq ?_
        refine xa 2 ?_
        refine rg_q (q_a rfl) (rg_q (q_a rfl) ?_)
        refine xc (awp_ret ?_)
        refine ⟨_, xk2, ?_⟩
        rw [hu]; rfl
      ·
        (try simp only [nb, ne_eq] at hc7)
        have hw : whenI (decide (10 < (s.fl.length : Int))) 8 = 0 := by unfold whenI; rw [if_neg (by simpa using hc7)]
        rw [h2, hw, if_neg (by decide)] at hu
        refine awp_skip ?_
        change Awp _ _ _ _ _
        refine awp_seq ?_
        refine awp_seq ?_
        refine xa 1 ?_
        refine rg_q (q_a rfl) ?_
        refine xc (awp_block ?_)
        refine awp_loopH [2, 3, 7, 8, 9, 30, 31, 32, 33, 34, 35, 36, 37, 38, 39, 40, 41, 42, 43, 44, 45, 46, 47, 48, 49, 50, 51, 52, 53, 54, 55, 56, 57, 58, 59, 60, 61, 62, 63, 64, 65, 66, 67, 68, 69] [] (α := Nat) (fun k => [(7, T.i (k : Int))]) (fun k => []) (fun k => k ≤ s.fl.length ∧ ckFls s.ar.ou.t 0 s.fl = ckFls s.ar.ou.t k (s.fl.drop k)) (fun k => s.fl.length - k) 0 ⟨Nat.zero_le _, rfl⟩ ?_ ?_
        · exact xh (ms := []) (by repeat (exact Out.refl _)) ⟨(by rfl), trivial⟩ trivial
        ·
          intro k ⟨hk, hf⟩
          refine awp_seq ?_
          refine awp_seq ?_
          refine xa 5 ?_
          refine rg_q (q_m rfl) (rg_q (q_fieldAddr fld40_2 rfl) (rg_q (q_load sz38 rfl rfl) ?_))
          refine rg_q (q_len isl38 rfl (by exact len_map _ _)) ?_
          refine rg_q (q_lss rfl rfl) ?_
          refine xc (awp_len (t := 32) rfl (fun hl32 => ?_))
          (try simp only [List.length_map] at hl32)
          refine awp_cond rfl (fun hc10 => ?_) (fun hc10 => ?_)
          ·
            (try simp only [nb, ne_eq] at hc10)
            have hlt : k < s.fl.length := by omega
            obtain ⟨x, hx⟩ : ∃ x, s.fl[k]? = some x := ⟨_, List.getElem?_eq_getElem hlt⟩
            have hd := ckFls_at (t := s.ar.ou.t) hx
            have he := flE_is s.ar.ou.t x
            refine awp_skip ?_
            change Awp _ _ _ _ _
            refine awp_seq ?_
            refine awp_block ?_
            refine awp_seq ?_
            refine xa 5 ?_
            refine rg_q (q_fieldAddr fld40_2 rfl) (rg_q (q_load sz38 rfl rfl) (rg_q (q_m rfl) ?_))
            refine rg_q (q_indexAddr sl38 rfl rfl (by omega) (map_at (by omega) hx)) ?_
            refine rg_q (q_loadA (ds := [_, _, _, _, _, _, _, _]) sz48 rfl rfl rfl) ?_
            refine rg_nil ?_
            refine aops_alloc zr48 rfl rfl rfl ?_
            refine aops_store sz48 rfl rfl (by exact .inr ⟨_, rfl⟩) rfl rfl (by decide) rfl ?_
            refine aops_nil (xq (awp_seq ?_))
            refine xa 3 ?_
            refine rg_q (q_load_refA (ds := [_, _, _, _, _, _, _, _]) sz48 rfl rfl rfl rfl) ?_
            refine rg_q (q_call en65 (.cons rfl .nil) rfl (rcheckFlaw_p x)) ?_
            refine rg_q (q_a rfl) ?_
            refine rs (xa 2 ?_)
            refine rg_q (q_m rfl) (rg_q (q_neq rfl rfl) ?_)
            refine xc (awp_cond rfl (fun hc14 => ?_) (fun hc14 => ?_))
            ·
              (try simp only [nb, ne_eq] at hc14)
              rw [if_pos hc14] at he
              refine awp_seq ?_
              refine xa 4 ?_
              refine rg_q (q_m rfl) (rg_q (q_m rfl) (rg_q (q_a rfl) (rg_q (q_a rfl) ?_)))
              refine xc (awp_ret ?_)
              refine ⟨_, xk2, ?_⟩
              rw [hu, hf, hd, he, if_pos hc14]; rfl
            ·
              (try simp only [nb, ne_eq] at hc14)
              rw [if_neg (fun q => q hc14)] at he
              refine awp_skip ?_
              change Awp _ _ _ _ _
              refine awp_seq ?_
              refine xa 21 ?_
              refine rg_q (q_fieldAddr fld40_0 rfl) ?_
              refine rg_q (q_loadA (ds := [_, _, _, _, _, _, _, _, _, _, _]) sz37 rfl rfl rfl) ?_
              refine rg_q (q_fieldAddr_ref fld48_1 rfl) (rg_q (q_fieldAddr_ref fld46_1 rfl) (rg_q (q_load_ref sz3 rfl rfl rfl) ?_))
              refine rg_q (q_call en66 (.cons rfl (.cons rfl .nil)) rfl (inPlate_p _ _ ht1 ht2)) ?_
              refine rg_q (q_not rfl) (rg_q (q_m rfl) ?_)
              refine rg_g rfl rfl (fun hG => (q_fieldAddr_ref fld48_0 rfl)) ?_
              refine rg_g rfl rfl (fun hG => (q_load_ref sz3 rfl rfl rfl)) ?_
              refine rg_g rfl rfl (fun hG => (q_eql rfl rfl)) ?_
              refine rg_g rfl rfl (fun hG => (q_m rfl)) ?_
              refine rg_g rfl rfl (fun hG => (q_fieldAddr fld40_0 rfl)) ?_
              refine rg_g rfl rfl (fun hG => (q_loadA (ds := [_, _, _, _, _, _, _, _, _, _, _]) sz37 rfl rfl rfl)) ?_
              refine rg_g rfl rfl (fun hG => (q_fieldAddr_ref fld48_2 rfl)) ?_
              refine rg_g rfl rfl (fun hG => (q_fieldAddr_ref fld46_1 rfl)) ?_
              refine rg_g rfl rfl (fun hG => (q_load_ref sz3 rfl rfl rfl)) ?_
              refine rg_g rfl rfl (fun hG => (q_call en66 (.cons rfl (.cons rfl .nil)) rfl (inPlate_p _ _ ht1 ht2))) ?_
              refine rg_g rfl rfl (fun hG => (q_not rfl)) ?_
              refine rg_pickg rfl rfl rfl rfl rfl rfl rfl rfl ?_
              refine rg_pick rfl rfl rfl rfl rfl rfl ?_
              refine xc (awp_cond rfl (fun hc16 => ?_) (fun hc16 => ?_))
              ·
                (try simp only [nb, ne_eq] at hc16)
                rw [if_pos hc16] at he
                refine awp_seq ?_
                refine xa 3 ?_
                refine rg_q (q_m rfl) (rg_q (q_a rfl) (rg_q (q_a rfl) ?_))
                refine xc (awp_ret ?_)
                refine ⟨_, xk2, ?_⟩
                rw [hu, hf, hd, he]; rfl
              ·
                (try simp only [nb, ne_eq] at hc16)
                rw [if_neg (fun q => q.elim (fun q => by rw [hc16.1] at q; cases q) (fun q => hc16.2.elim (fun z => z q.1) (fun z => by rw [z] at q; cases q.2)))] at he
                refine awp_skip ?_
                change Awp _ _ _ _ _
                refine xa 3 ?_
                refine rg_q (q_m rfl) ?_
                refine rg_q (q_add rfl rfl xi) ?_
                refine rg_q (q_a rfl) ?_
                refine rn ?_
                refine ⟨k + 1, ⟨by omega, by rw [hf, hd, if_neg (by rw [he]; simp)]⟩, by omega, ?_⟩
                exact xh (ms := []) (by repeat (first | exact Out.head rfl rfl | (refine Out.put ?_ rfl) | (refine Out.site ?_ rfl))) ⟨(by rfl), trivial⟩ trivial
          ·
            (try simp only [nb, ne_eq] at hc10)
            have hk0 : ckFls s.ar.ou.t 0 s.fl = (0, 0) := by rw [hf, List.drop_of_length_le (by omega)]; rfl
            rw [hk0] at hu
            refine awp_exit ?_
            change Awp _ _ _ _ _
            refine awp_seq ?_
            refine xa 2 ?_
            refine rg_q (q_a rfl) (rg_q (q_a rfl) ?_)
            refine xc (awp_ret ?_)
            refine ⟨_, xk2, ?_⟩
            rw [hu]; rfl
theorem specimenErr_p (s : Spc) : PC Try.prog 12 [.agg (spcC s)] (.v (.int .i64 ((ckSpc s).2))) := by
 refine pc_of_awp Try.func12 rfl Try.ntmps12 (rs := [.tmp 2]) Try.results12 (by simp) fun w0 => ?_
 refine awp_seq ?_
 refine xa 2 ?_
 refine rg_q (q_box rfl (by exact .inr ⟨_, rfl⟩)) ?_
 refine rg_q (q_a rfl) ?_
 refine rs (xa 7 ?_)
 refine rg_q (q_loadA sz40 rfl rfl rfl) ?_
 refine rg_q (q_call en36 (.cons rfl .nil) rfl (rcheckSpc_p _)) ?_
 refine rg_q (q_move (x := .d (.tup _)) rfl) (rg_q (q_extract rfl rfl) (rg_q (q_extract rfl rfl) (rg_q (q_a rfl) (rg_q (q_a rfl) ?_))))
 refine rs (xa 2 ?_)
 refine rg_q (q_m rfl) (rg_q (q_a rfl) ?_)
 refine xc (awp_ret ?_)
 refine ⟨_, xk1, ?_⟩
 rfl
theorem copySpots_p (l : List (Int × Int)) (hl : l.length ≤ 1000) : PC Try.prog 39 [.sl 2 (l.map shC)] (.sl 2 (l.map shC)) := by
 refine pc_of_awp Try.func39 rfl Try.ntmps39 (rs := [.tmp 2]) Try.results39 (by simp) fun w0 => ?_
 refine awp_seq ?_
 refine xa 1 ?_
 refine rg_q (q_assign (x := .d (.sl _ _)) rfl) ?_
 refine rs (xa 4 ?_)
 refine rg_q (q_empty0 sl31 zr46) ?_
 refine rg_q (q_move (x := .d (.sl _ _)) rfl) ?_
 refine rg_q (q_append0 sl31 zr46 by46 rfl (by decide) rfl rfl rfl (by (try simp only [List.length_map]); omega) (by (try simp only [List.length_map]); omega)) ?_
 refine rg_q (q_assign (x := .d (.sl _ _)) rfl) ?_
 refine xc (awp_ret ?_)
 refine ⟨_, xk1, ?_⟩
 rfl
theorem copyArr_p (a : Arr) (hl : a.el.length ≤ 1000) : PC Try.prog 15 [.agg (arrC a)] (.agg (arrC a)) := by
 refine pc_of_awp Try.func15 rfl Try.ntmps15 (rs := [.cell 2 37]) Try.results15 (by simp) fun w0 => ?_
 refine awp_seq ?_
 refine xa 0 ?_
 refine rg_nil ?_
 refine aops_box (X := .agg (arrC a)) rfl (by exact .inr ⟨_, rfl⟩) rfl rfl rfl ?_
 refine aops_alloc zr37 rfl rfl rfl ?_
 refine aops_nil (xq (xa 4 ?_))
 refine rg_q (q_fieldAddr_ref fld37_0 rfl) (rg_q (q_load_ref sz31 rfl rfl rfl) ?_)
 refine rg_q (q_call en39 (.cons rfl .nil) rfl (copySpots_p _ (by omega))) ?_
 refine rg_q (q_fieldAddr_ref fld37_0 rfl) ?_
 refine rg_nil ?_
 refine aops_store sz31 rfl rfl (by exact .inl rfl) rfl rfl (by exact Nat.le_of_ble_eq_true rfl) rfl ?_
 refine aops_nil (xq (xa 1 ?_))
 refine rg_q (q_load_refA (ds := [_, _, _, _, _, _, _, _, _, _, _]) sz37 rfl rfl rfl rfl) ?_
 refine rg_nil ?_
 refine aops_store sz37 rfl rfl (by exact .inr ⟨_, rfl⟩) rfl rfl (by decide) rfl ?_
 refine aops_nil ?_
 change Awp _ _ _ _ _
 refine awp_ret ?_
 refine ⟨_, (.cons (.cellA rfl rfl sz37 rfl) .nil), ?_⟩
 rfl
theorem copySpc_p (s : Spc) (hl : s.ar.el.length ≤ 1000) (h2 : s.pl.length ≤ 1000) (h3 : s.fl.length ≤ 1000) : PC Try.prog 19 [.agg (spcC s)] (.agg (spcC s)) := by
 refine pc_of_awp Try.func19 rfl Try.ntmps19 (rs := [.cell 2 40]) Try.results19 (by simp) fun w0 => ?_
 refine awp_seq ?_
 refine xa 1 ?_
 refine rg_q (q_box rfl (by exact .inr ⟨_, rfl⟩)) ?_
 refine rg_nil ?_
 refine aops_alloc zr40 rfl rfl rfl ?_
 refine aops_nil (xq (xa 11 ?_))
 refine rg_q (q_fieldAddr fld40_0 rfl) ?_
 refine rg_q (q_loadA (ds := [_, _, _, _, _, _, _, _, _, _, _]) sz37 rfl rfl rfl) ?_
 refine rg_q (q_call en15 (.cons rfl .nil) rfl (copyArr_p s.ar (by omega))) ?_
 refine rg_q (q_fieldAddr fld40_1 rfl) (rg_q (q_load sz23 rfl rfl) ?_)
 refine rg_q (q_call en17 (.cons rfl .nil) rfl (copyInts4_p _ (by omega))) ?_
 refine rg_q (q_empty0 sl38 zr48) ?_
 refine rg_q (q_fieldAddr fld40_2 rfl) (rg_q (q_load sz38 rfl rfl) ?_)
 refine rg_q (q_append0 sl38 zr48 by48 rfl (by decide) rfl rfl rfl (by (try simp only [List.length_map]); omega) (by (try simp only [List.length_map]); omega)) ?_
 refine rg_q (q_build pl40 zr40 rfl (.cons rfl (by exact .inr ⟨_, rfl⟩) (.cons rfl (by exact .inl rfl) (.cons rfl (by exact .inl rfl) .nil))) ⟨⟨rfl, by decide⟩, ⟨rfl, by decide⟩, ⟨rfl, by decide⟩, trivial⟩ rfl) ?_
 refine rg_nil ?_
 refine aops_store sz40 rfl rfl (by exact .inr ⟨_, rfl⟩) rfl rfl (by decide) rfl ?_
 refine aops_nil ?_
 change Awp _ _ _ _ _
 refine awp_ret ?_
 refine ⟨_, (.cons (.cellA rfl rfl sz40 rfl) .nil), ?_⟩
 rfl

def fewB (n : Nat) : Bool := decide (n ≤ 3) || (decide (16 < n) && decide (n ≤ 18))
def pcsB (x : Flw) : Bool := decide (4 < x.pc) && decide (x.pc ≤ 20)
def sliB (s : Spc) : Bool := !(!fewB s.ar.el.length || decide (18 < s.pl.length) || (decide (2 < s.fl.length) && decide (s.fl.length ≤ 10)) || decide (12 < s.fl.length)) && s.fl.all fun x => !pcsB x
theorem few_le {n : Nat} (h : fewB n = true) : n ≤ 18 := by simp [fewB] at h; omega
theorem sli_le {s : Spc} (h : sliB s = true) : s.ar.el.length ≤ 18 ∧ s.pl.length ≤ 18 ∧ s.fl.length ≤ 12 := by
  simp [sliB] at h
  obtain ⟨⟨⟨⟨h1, h2⟩, h3⟩, h4⟩, _⟩ := h
  exact ⟨few_le h1, h2, h4⟩
theorem all_at {l : List Flw} {k : Nat} {x : Flw} (hx : l[k]? = some x) : ((l.drop k).all fun x => !pcsB x) = (!pcsB x && (l.drop (k + 1)).all fun x => !pcsB x) := by
  obtain ⟨hlt, rfl⟩ := List.getElem?_eq_some_iff.1 hx
  rw [List.drop_eq_getElem_cons hlt]; rfl
theorem few_p (a : Arr) : PC Try.prog 35 [.agg (arrC a)] (.v (.bool (fewB a.el.length))) := by
 refine pc_of_awp Try.func35 rfl Try.ntmps35 (rs := [.tmp 2]) Try.results35 (by simp) fun w0 => ?_
 refine awp_seq ?_
 refine xa 2 ?_
 refine rg_q (q_box rfl (by exact .inr ⟨_, rfl⟩)) ?_
 refine rg_q (q_a rfl) ?_
 refine rs (xa 17 ?_)
 refine rg_q (q_fieldAddr fld37_0 rfl) (rg_q (q_load sz31 rfl rfl) ?_)
 refine rg_q (q_len isl31 rfl (by exact len_map _ _)) ?_
 refine rg_q (q_leq rfl rfl) (rg_q (q_m rfl) ?_)
 refine rg_g rfl rfl (fun hG => (q_fieldAddr fld37_0 rfl)) ?_
 refine rg_g rfl rfl (fun hG => (q_load sz31 rfl rfl)) ?_
 refine rg_g rfl rfl (fun hG => (q_len isl31 rfl (by exact len_map _ _))) ?_
 refine rg_g rfl rfl (fun hG => (q_gtr rfl rfl)) ?_
 refine rg_g rfl rfl (fun hG => (q_m rfl)) ?_
 refine rg_g rfl rfl (fun hG => (q_fieldAddr fld37_0 rfl)) ?_
 refine rg_g rfl rfl (fun hG => (q_load sz31 rfl rfl)) ?_
 refine rg_g rfl rfl (fun hG => (q_len isl31 rfl (by exact len_map _ _))) ?_
 refine rg_g rfl rfl (fun hG => (q_leq rfl rfl)) ?_
 refine rg_pickg rfl rfl rfl rfl rfl rfl rfl rfl ?_
 refine rg_pick rfl rfl rfl rfl rfl rfl ?_
 refine rg_q (q_a rfl) ?_
 refine xc (awp_len (t := 4) rfl (fun hl4 => ?_))
 (try simp only [List.length_map] at hl4)
 refine awp_ret ?_
 refine ⟨_, xk1, ?_⟩
 have e1 : decide (a.el.length ≤ 3) = decide ((a.el.length : Int) ≤ 3) := decide_eq_decide.2 (by omega)
 have e2 : decide (16 < a.el.length) = decide (16 < (a.el.length : Int)) := decide_eq_decide.2 (by omega)
 have e3 : decide (a.el.length ≤ 18) = decide ((a.el.length : Int) ≤ 18) := decide_eq_decide.2 (by omega)
 unfold fewB; rw [e1, e2, e3]; simp only [bif_and, bif_or]; rfl
theorem slight_p (s : Spc) : PC Try.prog 11 [.agg (spcC s)] (.v (.bool (sliB s))) := by
 have hu : sliB s = (!(!fewB s.ar.el.length || decide (18 < s.pl.length) || (decide (2 < s.fl.length) && decide (s.fl.length ≤ 10)) || decide (12 < s.fl.length)) && s.fl.all fun x => !pcsB x) := rfl
 refine pc_of_awp Try.func11 rfl Try.ntmps11 (rs := [.tmp 2]) Try.results11 (by simp) fun w0 => ?_
 refine awp_seq ?_
 refine xa 2 ?_
 refine rg_q (q_box rfl (by exact .inr ⟨_, rfl⟩)) ?_
 refine rg_q (q_a rfl) ?_
 refine rs (awp_seq ?_)
 refine xa 28 ?_
 refine rg_q (q_fieldAddr fld40_0 rfl) ?_
 refine rg_q (q_loadA (ds := [_, _, _, _, _, _, _, _, _, _, _]) sz37 rfl rfl rfl) ?_
 refine rg_q (q_call en35 (.cons rfl .nil) rfl (few_p s.ar)) ?_
 refine rg_q (q_not rfl) (rg_q (q_m rfl) ?_)
 refine rg_g rfl rfl (fun hG => (q_fieldAddr fld40_1 rfl)) ?_
 refine rg_g rfl rfl (fun hG => (q_load sz23 rfl rfl)) ?_
 refine rg_g rfl rfl (fun hG => (q_len isl23 rfl (by exact len_map _ _))) ?_
 refine rg_g rfl rfl (fun hG => (q_gtr rfl rfl)) ?_
 refine rg_pick rfl rfl rfl rfl rfl rfl ?_
 refine rg_q (q_m rfl) ?_
 refine rg_g rfl rfl (fun hG => (q_fieldAddr fld40_2 rfl)) ?_
 refine rg_g rfl rfl (fun hG => (q_load sz38 rfl rfl)) ?_
 refine rg_g rfl rfl (fun hG => (q_len isl38 rfl (by exact len_map _ _))) ?_
 refine rg_g rfl rfl (fun hG => (q_gtr rfl rfl)) ?_
 refine rg_g rfl rfl (fun hG => (q_m rfl)) ?_
 refine rg_g rfl rfl (fun hG => (q_fieldAddr fld40_2 rfl)) ?_
 refine rg_g rfl rfl (fun hG => (q_load sz38 rfl rfl)) ?_
 refine rg_g rfl rfl (fun hG => (q_len isl38 rfl (by exact len_map _ _))) ?_
 refine rg_g rfl rfl (fun hG => (q_leq rfl rfl)) ?_
 refine rg_pickg rfl rfl rfl rfl rfl rfl rfl rfl ?_
 refine rg_pick rfl rfl rfl rfl rfl rfl ?_
 refine rg_q (q_m rfl) ?_
 refine rg_g rfl rfl (fun hG => (q_fieldAddr fld40_2 rfl)) ?_
 refine rg_g rfl rfl (fun hG => (q_load sz38 rfl rfl)) ?_
 refine rg_g rfl rfl (fun hG => (q_len isl38 rfl (by exact len_map _ _))) ?_
 refine rg_g rfl rfl (fun hG => (q_gtr rfl rfl)) ?_
 refine rg_pick rfl rfl rfl rfl rfl rfl ?_
 refine xc (awp_cond rfl (fun hc1 => ?_) (fun hc1 => ?_))
 ·
  (try simp only [nb, ne_eq] at hc1)
  have hq : (!fewB s.ar.el.length || decide (18 < s.pl.length) || (decide (2 < s.fl.length) && decide (s.fl.length ≤ 10)) || decide (12 < s.fl.length)) = true := by
   rcases hc1 with ((q | q) | ⟨q, q2⟩) | q
   · simp [q]
   · simp; omega
   · simp; omega
   · simp; omega
  rw [hq] at hu
  refine awp_seq ?_
  refine xa 1 ?_
  refine rg_q (q_a rfl) ?_
  refine xc (awp_ret ?_)
  refine ⟨_, xk1, ?_⟩
  rw [hu]; rfl
 ·
  (try simp only [nb, ne_eq] at hc1)
  have hq : (!fewB s.ar.el.length || decide (18 < s.pl.length) || (decide (2 < s.fl.length) && decide (s.fl.length ≤ 10)) || decide (12 < s.fl.length)) = false := by
   obtain ⟨⟨⟨q1, q2⟩, q3⟩, q4⟩ := hc1
   simp [q1]; omega
  rw [hq] at hu
  refine awp_skip ?_
  change Awp _ _ _ _ _
  refine awp_seq ?_
  refine awp_seq ?_
  refine xa 1 ?_
  refine rg_q (q_a rfl) ?_
  refine xc (awp_block ?_)
  refine awp_loopH [2, 3, 32, 33, 34, 35, 36, 37, 38, 39, 40, 41, 42, 43, 44, 45, 46, 47, 48, 49, 50, 51, 52, 53, 54] [] (α := Nat) (fun k => [(3, T.i (k : Int))]) (fun k => []) (fun k => k ≤ s.fl.length ∧ (s.fl.all fun x => !pcsB x) = ((s.fl.drop k).all fun x => !pcsB x)) (fun k => s.fl.length - k) 0 ⟨Nat.zero_le _, rfl⟩ ?_ ?_
  · exact xh (ms := []) (by repeat (exact Out.refl _)) ⟨(by rfl), trivial⟩ trivial
  ·
   intro k ⟨hk, hf⟩
   refine awp_seq ?_
   refine awp_seq ?_
   refine xa 5 ?_
   refine rg_q (q_m rfl) (rg_q (q_fieldAddr fld40_2 rfl) (rg_q (q_load sz38 rfl rfl) ?_))
   refine rg_q (q_len isl38 rfl (by exact len_map _ _)) ?_
   refine rg_q (q_lss rfl rfl) ?_
   refine xc (awp_len (t := 34) rfl (fun hl34 => ?_))
   (try simp only [List.length_map] at hl34)
   refine awp_cond rfl (fun hc4 => ?_) (fun hc4 => ?_)
   ·
    (try simp only [nb, ne_eq] at hc4)
    have hlt : k < s.fl.length := by omega
    obtain ⟨x, hx⟩ : ∃ x, s.fl[k]? = some x := ⟨_, List.getElem?_eq_getElem hlt⟩
    have hd := all_at hx
    refine awp_skip ?_
    change Awp _ _ _ _ _
    refine awp_seq ?_
    refine awp_block ?_
    refine awp_seq ?_
    refine xa 16 ?_
    refine rg_q (q_fieldAddr fld40_2 rfl) (rg_q (q_load sz38 rfl rfl) (rg_q (q_m rfl) ?_))
    refine rg_q (q_indexAddr sl38 rfl rfl (by omega) (map_at (by omega) hx)) ?_
    refine rg_q (q_fieldAddr fld48_3 rfl) (rg_q (q_load sz3 rfl rfl) (rg_q (q_gtr rfl rfl) (rg_q (q_m rfl) ?_)))
    refine rg_g rfl rfl (fun hG => (q_fieldAddr fld40_2 rfl)) ?_
    refine rg_g rfl rfl (fun hG => (q_load sz38 rfl rfl)) ?_
    refine rg_g rfl rfl (fun hG => (q_m rfl)) ?_
    refine rg_g rfl rfl (fun hG => (q_indexAddr sl38 rfl rfl (by (have hg0 := T.bool_inj (a := _) hG.1; (try simp only [nb, ne_eq] at hg0); omega)) (map_at (by (have hg0 := T.bool_inj (a := _) hG.1; (try simp only [nb, ne_eq] at hg0); omega)) hx))) ?_
    refine rg_g rfl rfl (fun hG => (q_fieldAddr fld48_3 rfl)) ?_
    refine rg_g rfl rfl (fun hG => (q_load sz3 rfl rfl)) ?_
    refine rg_g rfl rfl (fun hG => (q_leq rfl rfl)) ?_
    refine rg_pick rfl rfl rfl rfl rfl rfl ?_
    refine xc (awp_cond rfl (fun hc6 => ?_) (fun hc6 => ?_))
    ·
     (try simp only [nb, ne_eq] at hc6)
     have hp : pcsB x = true := by unfold pcsB; simp; omega
     refine awp_seq ?_
     refine xa 1 ?_
     refine rg_q (q_a rfl) ?_
     refine xc (awp_ret ?_)
     refine ⟨_, xk1, ?_⟩
     rw [hu, hf, hd, hp]; rfl
    ·
     (try simp only [nb, ne_eq] at hc6)
     have hp : pcsB x = false := by unfold pcsB; simp; omega
     refine awp_skip ?_
     change Awp _ _ _ _ _
     refine xa 3 ?_
     refine rg_q (q_m rfl) ?_
     refine rg_q (q_add rfl rfl xi) ?_
     refine rg_q (q_a rfl) ?_
     refine rn ?_
     refine ⟨k + 1, ⟨by omega, by rw [hf, hd, hp]; rfl⟩, by omega, ?_⟩
     exact xh (ms := []) (by repeat (first | exact Out.head rfl rfl | (refine Out.put ?_ rfl))) ⟨(by rfl), trivial⟩ trivial
   ·
    (try simp only [nb, ne_eq] at hc4)
    have hk0 : (s.fl.all fun x => !pcsB x) = true := by rw [hf, List.drop_of_length_le (by omega)]; rfl
    rw [hk0] at hu
    refine awp_exit ?_
    change Awp _ _ _ _ _
    refine awp_seq ?_
    refine xa 1 ?_
    refine rg_q (q_a rfl) ?_
    refine xc (awp_ret ?_)
    refine ⟨_, xk1, ?_⟩
    rw [hu]; rfl
open Go
open Go

theorem plate_ok {z t : Int} : plateE z t = 0 ↔ 1 ≤ z ∧ z ≤ t - 1 := by
  unfold plateE; rw [must_zero (by decide)]; simp [inR]
theorem rnd_btw {m n lo hi : Int} (hn : 1 ≤ n) (h1 : lo * n ≤ m) (h2 : m ≤ hi * n) : lo ≤ rndI m n ∧ rndI m n ≤ hi := by
  unfold rndI
  have e1 : lo * (2 * n) = 2 * (lo * n) := by grind
  have e2 : (hi + 1) * (2 * n) = 2 * (hi * n) + 2 * n := by grind
  refine ⟨Int.le_ediv_of_mul_le (by omega) (by omega), ?_⟩
  have := Int.ediv_lt_of_lt_mul (a := 2 * m + n) (b := hi + 1) (c := 2 * n) (by omega) (by omega)
  omega
theorem betw_in {n u v k lo hi : Int} (hn : 1 ≤ n) (hk : 0 ≤ k) (hkn : k ≤ n) (u1 : lo ≤ u) (u2 : u ≤ hi) (v1 : lo ≤ v) (v2 : v ≤ hi) : lo ≤ betw n u v k ∧ betw n u v k ≤ hi := by
  unfold betw
  have a1 := Int.mul_le_mul_of_nonneg_right u1 (show 0 ≤ n - k by omega)
  have a2 := Int.mul_le_mul_of_nonneg_right u2 (show 0 ≤ n - k by omega)
  have b1 := Int.mul_le_mul_of_nonneg_right v1 hk
  have b2 := Int.mul_le_mul_of_nonneg_right v2 hk
  have e1 : lo * (n - k) + lo * k = lo * n := by grind
  have e2 : hi * (n - k) + hi * k = hi * n := by grind
  exact rnd_btw hn (by omega) (by omega)
theorem ckFls_all {t : Int} : ∀ {l : List Flw} {i : Nat}, (ckFls t i l).2 = 0 → ∀ x ∈ l, flE t x = 0
  | [], _, _, x, hx => by cases hx
  | y :: l, i, h, x, hx => by
    unfold ckFls at h
    by_cases h1 : flE t y ≠ 0
    · rw [if_pos h1] at h; exact absurd h h1
    · rw [if_neg h1] at h
      rcases List.mem_cons.1 hx with rfl | hx
      · exact Decidable.not_not.1 h1
      · exact ckFls_all h x hx
theorem fl_pts {t : Int} {x : Flw} (h : flE t x = 0) : ∀ q ∈ ptsL x, spotE q.1 = 0 ∧ plateE q.1.2 t = 0 := by
  rw [flE_is] at h
  by_cases h0 : flwE x = 0
  · rw [if_neg (fun q => q h0)] at h
    have hok := flw_ok h0
    by_cases h1 : inR 1 x.at_.2 (t - 1) = false ∨ (x.kd = 1 ∧ inR 1 x.to_.2 (t - 1) = false)
    · rw [if_pos h1] at h; cases h
    · have ha : inR 1 x.at_.2 (t - 1) = true := by
        cases q : inR 1 x.at_.2 (t - 1) with
        | true => rfl
        | false => exact absurd (.inl q) h1
      have hb : x.kd = 1 → inR 1 x.to_.2 (t - 1) = true := fun hk => by
        cases q : inR 1 x.to_.2 (t - 1) with
        | true => rfl
        | false => exact absurd (.inr ⟨hk, q⟩) h1
      simp [inR] at ha
      intro q hq
      unfold ptsL at hq
      by_cases hk : x.kd = 0
      · rw [if_pos hk] at hq
        rw [List.mem_singleton.1 hq]
        have := hok.a1
        have := hok.a2
        exact ⟨spot_ok.2 (by simp only; omega), plate_ok.2 (by simp only; omega)⟩
      · rw [if_neg hk] at hq
        obtain ⟨⟨t1, t2⟩, ⟨t3, t4⟩, ⟨n1, n2⟩, _⟩ := hok.pl hk
        have hk1 : x.kd = 1 := by have := hok.kd; omega
        have hb := hb hk1
        simp [inR] at hb
        unfold ptsTo at hq
        obtain ⟨i, hi, rfl⟩ := List.mem_map.1 hq
        have hi := List.mem_range.1 hi
        obtain ⟨a1, a2⟩ := hok.a1
        obtain ⟨a3, a4⟩ := hok.a2
        have g1 := betw_in (n := x.pc) (u := x.at_.1) (v := x.to_.1) (k := (i : Int)) (lo := -100000) (hi := 100000) n1 (by omega) (by omega) a1 a2 t1 t2
        have g2 := betw_in (n := x.pc) (u := x.at_.2) (v := x.to_.2) (k := (i : Int)) (lo := -100000) (hi := 100000) n1 (by omega) (by omega) a3 a4 t3 t4
        have g3 := betw_in (n := x.pc) (u := x.at_.2) (v := x.to_.2) (k := (i : Int)) (lo := 1) (hi := t - 1) n1 (by omega) (by omega) (by omega) (by omega) (by omega) (by omega)
        unfold ptK
        exact ⟨spot_ok.2 (by simp only; omega), plate_ok.2 (by simp only; omega)⟩
  · rw [if_pos h0] at h; exact absurd h h0
theorem spc_pts {s : Spc} (h : (ckSpc s).2 = 0) : ∀ x ∈ s.fl, ∀ q ∈ ptsL x, spotE q.1 = 0 ∧ plateE q.1.2 s.ar.ou.t = 0 := by
  unfold ckSpc at h
  by_cases h1 : (ckArr s.ar).2 ≠ 0
  · rw [if_pos h1] at h; exact absurd h h1
  · rw [if_neg h1] at h
    by_cases h2 : spcE0 s ≠ 0
    · rw [if_pos h2] at h; exact absurd h h2
    · rw [if_neg h2] at h
      exact fun x hx => fl_pts (ckFls_all h x hx)
end Go.Proofs.Ytamaocfjknpadaa.Am.M
-- mini
set_option maxRecDepth 100000
namespace Go.Proofs.Ytamaocfjknpadaa.Am.M
open Go

theorem cloneS_p (es : List (List D)) (h0 : 0 < es.length) (hl : es.length ≤ 20000) : PC Try.prog 91 [.sl 2 es] (.sl 2 es) := by
 refine pc_of_awp Try.func91 rfl Try.ntmps91 (rs := [.tmp 2]) Try.results91 (by simp) fun w0 => ?_
 refine awp_seq ?_
 refine xa 1 ?_
 refine rg_q (q_assign (x := .d (.sl _ _)) rfl) ?_
 refine rs (awp_seq ?_)
 refine xa 2 ?_
 refine rg_q (q_move (x := .d (.sl _ _)) rfl) ?_
 refine rg_q (q_eqnil_sl sl31 rfl (by (try simp only [List.length_map]); omega)) ?_
 refine xc (awp_cond rfl (fun hc1 => ?_) (fun hc1 => ?_))
 ·
  cases hc1
 ·
  (try simp only [nb, ne_eq] at hc1)
  refine awp_skip ?_
  change Awp _ _ _ _ _
  refine awp_seq ?_
  refine xa 4 ?_
  refine rg_q (q_empty0 sl31 zr46) ?_
  refine rg_q (q_move (x := .d (.sl _ _)) rfl) ?_
  refine rg_q (q_append0 sl31 zr46 by46 rfl (by decide) rfl rfl rfl (by (try simp only [List.length_map]); omega) (by (try simp only [List.length_map]); omega)) ?_
  refine rg_q (q_assign (x := .d (.sl _ _)) rfl) ?_
  refine xc (awp_ret ?_)
  refine ⟨_, xk1, ?_⟩
  rfl
theorem cloneI_p (es : List (List D)) (h0 : 0 < es.length) (hl : es.length ≤ 20000) : PC Try.prog 92 [.sl 1 es] (.sl 1 es) := by
 refine pc_of_awp Try.func92 rfl Try.ntmps92 (rs := [.tmp 2]) Try.results92 (by simp) fun w0 => ?_
 refine awp_seq ?_
 refine xa 1 ?_
 refine rg_q (q_assign (x := .d (.sl _ _)) rfl) ?_
 refine rs (awp_seq ?_)
 refine xa 2 ?_
 refine rg_q (q_move (x := .d (.sl _ _)) rfl) ?_
 refine rg_q (q_eqnil_sl sl23 rfl (by (try simp only [List.length_map]); omega)) ?_
 refine xc (awp_cond rfl (fun hc1 => ?_) (fun hc1 => ?_))
 ·
  cases hc1
 ·
  (try simp only [nb, ne_eq] at hc1)
  refine awp_skip ?_
  change Awp _ _ _ _ _
  refine awp_seq ?_
  refine xa 4 ?_
  refine rg_q (q_empty0 sl23 zr3) ?_
  refine rg_q (q_move (x := .d (.sl _ _)) rfl) ?_
  refine rg_q (q_append0 sl23 zr3 by3 rfl (by decide) rfl rfl rfl (by (try simp only [List.length_map]); omega) (by (try simp only [List.length_map]); omega)) ?_
  refine rg_q (q_assign (x := .d (.sl _ _)) rfl) ?_
  refine xc (awp_ret ?_)
  refine ⟨_, xk1, ?_⟩
  rfl
theorem cloneV_p (A : Option Addr) (cap : Nat) : PC Try.prog 93 [.v (.slice A 0 cap)] (.sl 8 []) := by
 refine pc_of_awp Try.func93 rfl Try.ntmps93 (rs := [.tmp 2]) Try.results93 (by simp) fun w0 => ?_
 refine awp_seq ?_
 refine xa 1 ?_
 refine rg_q (q_assign_nil) ?_
 refine rs (awp_seq ?_)
 refine xa 2 ?_
 refine rg_q (q_m rfl) ?_
 refine rg_q (q_eqnil_v sl38 rfl rfl) ?_
 refine xc (awp_cond rfl (fun hc1 => ?_) (fun hc1 => ?_))
 ·
  (try simp only [nb, ne_eq] at hc1)
  refine awp_seq ?_
  refine xa 1 ?_
  refine rg_q (q_assign_nil) ?_
  refine xc (awp_ret ?_)
  refine ⟨_, (.cons (.tmp (by exact .nil 8)) .nil), ?_⟩
  rfl
 ·
  (try simp only [nb, ne_eq] at hc1)
  refine awp_skip ?_
  change Awp _ _ _ _ _
  refine awp_seq ?_
  refine xa 4 ?_
  refine rg_q (q_empty0 sl38 zr48) ?_
  refine rg_q (q_m rfl) ?_
  refine rg_q (q_append0v sl38 zr48 rfl rfl) ?_
  refine rg_q (q_assign (x := .d (.sl _ _)) rfl) ?_
  refine xc (awp_ret ?_)
  refine ⟨_, xk1, ?_⟩
  rfl

theorem cloneN_p : PC Try.prog 93 [.sl 8 []] (.sl 8 []) := pc_empty cloneV_p
theorem cloneE_p (es : List (List D)) (h : es = []) : PC Try.prog 93 [.sl 8 es] (.sl 8 es) := h ▸ cloneN_p
theorem flwC_flat (x : Flw) : ∀ d ∈ flwC x, D.Flat d := by
  intro d hd
  simp only [flwC, List.mem_cons, List.not_mem_nil, or_false] at hd
  rcases hd with rfl | rfl | rfl | rfl | rfl | rfl | rfl | rfl <;> exact .v _
theorem cloneO_p (es : List (List D)) (h0 : 0 < es.length) (hl : es.length ≤ 20000) : PCS Try.prog 93 [.d (.sl 8 es)] [] (.rs 0) [.row 48 8 es] := by
 refine pcs_of_awp Try.func93 rfl Try.ntmps93 (rs := [.tmp 2]) Try.results93 (by simp) fun w0 => ?_
 refine awp_seq ?_
 refine xa 1 ?_
 refine rg_q (q_assign (x := .d (.sl _ _)) rfl) ?_
 refine rs (awp_seq ?_)
 refine xa 2 ?_
 refine rg_q (q_move (x := .d (.sl _ _)) rfl) ?_
 refine rg_q (q_eqnil_sl sl38 rfl (by (try simp only [List.length_map]); omega)) ?_
 refine xc (awp_cond rfl (fun hc1 => ?_) (fun hc1 => ?_))
 ·
  cases hc1
 ·
  (try simp only [nb, ne_eq] at hc1)
  refine awp_skip ?_
  change Awp _ _ _ _ _
  refine awp_seq ?_
  refine xa 2 ?_
  refine rg_q (q_empty0 sl38 zr48) ?_
  refine rg_q (q_move (x := .d (.sl _ _)) rfl) ?_
  refine rg_nil ?_
  refine aops_append0 sl38 zr48 by48 rfl (by decide) rfl rfl rfl h0 (by omega) (by omega) rfl rfl ?_
  refine aops_q rfl (q_assign (x := .rs _) rfl) ?_
  refine aops_nil ?_
  change Awp _ _ _ _ _
  refine awp_ret ?_
  exact end_mk (.inl rfl) [7] (.tmp rfl) (by repeat (first | exact trivial | refine ⟨rfl, ?_⟩)) rfl
theorem copiedN_p (s : Spc) (hl : s.ar.el.length ≤ 1000) (h2 : s.pl.length ≤ 1000) (h3 : s.fl.length ≤ 1000) (he : 0 < s.ar.el.length) (hp : 0 < s.pl.length) (hn : s.fl.length = 0) : PC Try.prog 75 [.agg (spcC s)] (.agg (spcC s)) := by
 refine pc_of_awp Try.func75 rfl Try.ntmps75 (rs := [.cell 2 40]) Try.results75 (by simp) fun w0 => ?_
 refine awp_seq ?_
 refine xa 0 ?_
 refine rg_nil ?_
 refine aops_box rfl (by exact .inr ⟨_, rfl⟩) rfl rfl rfl ?_
 refine aops_alloc zr40 rfl rfl rfl ?_
 refine aops_nil (xq (awp_regionM 17 [none, none, none, none, none, none, none, none, none, none, none, none, some 1, none, some 1, none, some 1] mixed (by kernel_rfl) ?_))
 refine rgm_q rfl (q_fieldAddr_ref fld40_0 rfl) ?_
 refine rgm_q rfl (q_fieldAddr_ref fld37_0 rfl) ?_
 refine rgm_q rfl (q_load_ref sz31 rfl rfl rfl) ?_
 refine rgm_q rfl (q_call en91 (.cons rfl .nil) rfl (cloneS_p _ (by rw [List.length_map]; omega) (by rw [List.length_map]; omega))) ?_
 refine rgm_q rfl (q_fieldAddr_ref fld40_1 rfl) ?_
 refine rgm_q rfl (q_load_ref sz23 rfl rfl rfl) ?_
 refine rgm_q rfl (q_call en92 (.cons rfl .nil) rfl (cloneI_p _ (by rw [List.length_map]; omega) (by rw [List.length_map]; omega))) ?_
 refine rgm_q rfl (q_fieldAddr_ref fld40_2 rfl) ?_
 refine rgm_q rfl (q_load_ref sz38 rfl rfl rfl) ?_
 refine rgm_q rfl (q_call en93 (.cons rfl .nil) rfl (cloneE_p (s.fl.map flwC) (by rw [List.length_eq_zero_iff.1 hn]; rfl))) ?_
 refine rgm_q rfl (q_fieldAddr_ref fld40_0 rfl) ?_
 refine rgm_q rfl (q_fieldAddr_ref fld37_0 rfl) ?_
 refine rgm_m (k := 1) rfl rfl (by rfl) (m_store sz31 rfl rfl (by exact .inl rfl) rfl rfl (by exact Nat.le_of_ble_eq_true rfl) rfl) ?_
 refine rgm_q rfl (q_fieldAddr_ref fld40_1 rfl) ?_
 refine rgm_m (k := 1) rfl rfl (by rfl) (m_store sz23 rfl rfl (by exact .inl rfl) rfl rfl (by exact Nat.le_of_ble_eq_true rfl) rfl) ?_
 refine rgm_q rfl (q_fieldAddr_ref fld40_2 rfl) ?_
 refine rgm_m (k := 1) rfl rfl (by rfl) (m_store sz38 rfl rfl (by exact .inl rfl) rfl rfl (by exact Nat.le_of_ble_eq_true rfl) rfl) ?_
 refine rgm_nil (aops_nil ?_)
 change Awp _ _ _ _ _
 refine awp_seq ?_
 refine xa 1 ?_
 refine rg_q (q_load_refA sz40 rfl rfl rfl rfl) ?_
 refine rg_nil ?_
 refine aops_store sz40 rfl rfl (by exact .inr ⟨_, rfl⟩) rfl rfl (by decide) rfl ?_
 refine aops_nil ?_
 change Awp _ _ _ _ _
 refine awp_ret ?_
 refine ⟨_, (.cons (.cellA rfl rfl sz40 rfl) .nil), ?_⟩
 rfl
theorem copiedO_p (s : Spc) (hl : s.ar.el.length ≤ 1000) (h2 : s.pl.length ≤ 1000) (h3 : s.fl.length ≤ 1000) (he : 0 < s.ar.el.length) (hp : 0 < s.pl.length) (h0 : 0 < s.fl.length) : PCS Try.prog 75 [.d (.agg (spcC s))] [] (.ag 0 (arrC s.ar ++ [D.sl 1 (s.pl.map iC)]) []) [.row 48 8 (s.fl.map flwC)] := by
 refine pcs_of_awpA Try.func75 rfl Try.ntmps75 Try.results75 (by simp) fun w0 hrnd => ?_
 refine awp_seq ?_
 refine xa 0 ?_
 refine rg_nil ?_
 refine aops_box rfl (by exact .inr ⟨_, rfl⟩) rfl rfl rfl ?_
 refine aops_alloc zr40 rfl rfl rfl ?_
 refine aops_nil (xq (awp_regionM 17 [none, none, none, none, none, none, none, none, none, some 12, none, none, some 1, none, some 1, none, some 1] mixed (by kernel_rfl) ?_))
 refine rgm_q rfl (q_fieldAddr_ref fld40_0 rfl) ?_
 refine rgm_q rfl (q_fieldAddr_ref fld37_0 rfl) ?_
 refine rgm_q rfl (q_load_ref sz31 rfl rfl rfl) ?_
 refine rgm_q rfl (q_call en91 (.cons rfl .nil) rfl (cloneS_p _ (by rw [List.length_map]; omega) (by rw [List.length_map]; omega))) ?_
 refine rgm_q rfl (q_fieldAddr_ref fld40_1 rfl) ?_
 refine rgm_q rfl (q_load_ref sz23 rfl rfl rfl) ?_
 refine rgm_q rfl (q_call en92 (.cons rfl .nil) rfl (cloneI_p _ (by rw [List.length_map]; omega) (by rw [List.length_map]; omega))) ?_
 refine rgm_q rfl (q_fieldAddr_ref fld40_2 rfl) ?_
 refine rgm_q rfl (q_load_ref sz38 rfl rfl rfl) ?_
 refine rgm_m (k := 12) rfl rfl (by rfl) (m_callN en93 (cloneO_p (s.fl.map flwC) (by rw [List.length_map]; exact h0) (by rw [List.length_map]; omega)) rfl (.cons rfl .nil) rfl (flat_row flwC 48 8 s.fl flwC_flat)) ?_
 refine rgm_q rfl (q_fieldAddr_ref fld40_0 rfl) ?_
 refine rgm_q rfl (q_fieldAddr_ref fld37_0 rfl) ?_
 refine rgm_m (k := 1) rfl rfl (by rfl) (m_store sz31 rfl rfl (by exact .inl rfl) rfl rfl (by exact Nat.le_of_ble_eq_true rfl) rfl) ?_
 refine rgm_q rfl (q_fieldAddr_ref fld40_1 rfl) ?_
 refine rgm_m (k := 1) rfl rfl (by rfl) (m_store sz23 rfl rfl (by exact .inl rfl) rfl rfl (by exact Nat.le_of_ble_eq_true rfl) rfl) ?_
 refine rgm_q rfl (q_fieldAddr_ref fld40_2 rfl) ?_
 refine rgm_m (k := 1) rfl rfl (by rfl) (m_storeR sz38 rfl rfl rfl (Nat.le_of_ble_eq_true rfl) rfl) ?_
 refine rgm_nil (aops_nil ?_)
 change Awp _ _ _ _ _
 refine awp_seq ?_
 refine Awp.le (le_tbox (k := 2) (ts := [_, _, _, _, _, _, _, _, _, _, _, _, _]) rfl rfl) ?_
 refine xa 1 ?_
 refine rg_q (q_load_ag (u := (arrC s.ar ++ [D.sl 1 (s.pl.map iC)])) (v := []) sz40 rfl rfl rfl rfl) ?_
 refine rg_nil ?_
 refine aops_storeAg sz40 rfl rfl rfl rfl rfl rfl rfl ?_
 refine aops_nil ?_
 change Awp _ _ _ _ _
 refine awp_ret ?_
 exact enda_mk (.inl rfl) [12] ⟨2, 12, 13, (arrC s.ar ++ [D.sl 1 (s.pl.map iC)]), [], rfl, rfl, sz40, rfl, rfl⟩ (by repeat (first | exact trivial | refine ⟨rfl, ?_⟩)) rfl

theorem spc_pulse {s : Spc} (h : (ckSpc s).2 = 0) : plsE s.pl = 0 := by
  unfold ckSpc at h
  by_cases h1 : (ckArr s.ar).2 ≠ 0
  · rw [if_pos h1] at h; exact absurd h h1
  rw [if_neg h1] at h
  by_cases h2 : spcE0 s ≠ 0
  · rw [if_pos h2] at h; exact absurd h h2
  have h3 := Decidable.not_not.1 h2
  unfold spcE0 at h3
  exact first_zero.1 h3 _ (by simp)
def zSpc : Spc := ⟨⟨[], ⟨0, 0, 0, 0⟩, ⟨0, 0, 0, 0⟩, (0, 0)⟩, [], []⟩
def mvF (b : Int) (x : Flw) : Flw := ⟨x.kd, (x.at_.1 + b, x.at_.2), if x.kd = 1 then (x.to_.1 + b, x.to_.2) else x.to_, x.pc, x.am, x.tp⟩
def mvB (b : Int) (x : Flw) : Bool := inR (-100000) (mvF b x).at_.1 100000 && inR (-100000) (mvF b x).to_.1 100000
def mvS (s : Spc) (b : Int) : Spc := ⟨s.ar, s.pl, s.fl.map (mvF b)⟩
def mvR0 (s : Spc) (b : Int) : Spc × Int := if inR (-100000) b 100000 = true then (if s.fl.all (mvB b) = true then (mvS s b, 0) else (zSpc, 2)) else (zSpc, 2)
def mvR (s : Spc) (b : Int) : Spc × Int := if (ckSpc s).2 ≠ 0 then (zSpc, (ckSpc s).2) else mvR0 s b
def mvL (b : Int) (l : List Flw) (k : Nat) : List Flw := (l.take k).map (mvF b) ++ l.drop k
theorem mvL_len (b : Int) (l : List Flw) (k : Nat) : (mvL b l k).length = l.length := by unfold mvL; simp; omega
theorem mvL_at {b : Int} {l : List Flw} {k : Nat} {x : Flw} (hx : l[k]? = some x) : (mvL b l k)[k]? = some x := by
  have hk := (List.getElem?_eq_some_iff.1 hx).1
  unfold mvL
  rw [List.getElem?_append_right (by simp; omega), List.length_map, List.length_take, Nat.min_eq_left (by omega), Nat.sub_self, List.getElem?_drop, Nat.add_zero, hx]
theorem mvL_set {b : Int} {l : List Flw} {k : Nat} {x : Flw} (hx : l[k]? = some x) : (mvL b l k).set k (mvF b x) = mvL b l (k + 1) := by
  have hk := (List.getElem?_eq_some_iff.1 hx).1
  have hl : ((l.take k).map (mvF b)).length = k := by simp; omega
  unfold mvL
  rw [List.set_append_right _ _ (by omega), hl, Nat.sub_self, List.drop_eq_getElem_cons hk, List.set_cons_zero, List.take_succ_eq_append_getElem hk, List.map_append, (List.getElem?_eq_some_iff.1 hx).2]
  simp
theorem mvL_all (b : Int) (l : List Flw) : mvL b l l.length = l.map (mvF b) := by unfold mvL; simp
theorem all_step {b : Int} {l : List Flw} {k : Nat} {x : Flw} (hx : l[k]? = some x) (h : (l.take k).all (mvB b) = true) (hb : mvB b x = true) : (l.take (k + 1)).all (mvB b) = true := by
  rw [List.take_succ_eq_append_getElem (List.getElem?_eq_some_iff.1 hx).1, (List.getElem?_eq_some_iff.1 hx).2, List.all_append, h, List.all_cons, hb]; rfl
theorem all_not {b : Int} {l : List Flw} {k : Nat} {x : Flw} (hx : l[k]? = some x) (hb : mvB b x = false) : ¬ l.all (mvB b) = true := fun q => by
  have := List.all_eq_true.1 q x (List.mem_of_getElem? hx)
  rw [hb] at this; cases this

def mvA (b : Int) (x : Flw) : Flw := ⟨x.kd, (x.at_.1 + b, x.at_.2), x.to_, x.pc, x.am, x.tp⟩
def mvT (b : Int) (x : Flw) : Flw := ⟨x.kd, (x.at_.1 + b, x.at_.2), (x.to_.1 + b, x.to_.2), x.pc, x.am, x.tp⟩
theorem mvA_eq {b : Int} {x : Flw} (h : ¬ x.kd = 1) : mvA b x = mvF b x := by unfold mvA mvF; rw [if_neg h]
theorem mvT_eq {b : Int} {x : Flw} (h : x.kd = 1) : mvT b x = mvF b x := by unfold mvT mvF; rw [if_pos h]
theorem mv_row {b : Int} {l : List Flw} {k : Nat} {x y : Flw} (hx : l[k]? = some x) (hy : y = mvF b x) : ((mvL b l k).map flwC).set k (flwC y) = (mvL b l (k + 1)).map flwC := by
  rw [hy, ← List.map_set, mvL_set hx]
theorem mv_row2 {b : Int} {l : List Flw} {k : Nat} {x : Flw} (hx : l[k]? = some x) : ((mvL b l (k + 1)).map flwC)[k]? = some (flwC (mvF b x)) := by
  have hk := (List.getElem?_eq_some_iff.1 hx).1
  rw [← mv_row hx rfl, List.getElem?_set_self (by rw [List.length_map, mvL_len]; exact hk)]
theorem movedO_p (s : Spc) (hl : s.ar.el.length ≤ 1000) (h2 : s.pl.length ≤ 1000) (h3 : s.fl.length ≤ 1000) (he : 0 < s.ar.el.length) (hp : 0 < s.pl.length) (b : Int) (h0 : 0 < s.fl.length) (hfl : ∀ x ∈ s.fl, FlwOk x) : PC Try.prog 51 [.agg (spcC s), .v (.int .i64 (b))] (.tup [.agg (spcC (mvR0 s b).1), .v (.int .i64 ((mvR0 s b).2))]) := by
 have hml : (s.fl.map flwC).length = s.fl.length := List.length_map _
 refine pc_of_awpN Try.func51 rfl Try.ntmps51 (rs := [.cell 4 40, .tmp 5]) Try.results51 (by simp) fun w0 hmine hrnd hpn => ?_
 refine awp_seq ?_
 refine xa 0 ?_
 refine rg_nil ?_
 refine aops_box rfl (by exact .inr ⟨_, rfl⟩) rfl rfl rfl ?_
 refine aops_alloc zr40 rfl rfl rfl ?_
 refine aops_q rfl (q_a rfl) ?_
 refine aops_nil (xq (awp_seq ?_))
 refine xa 3 ?_
 refine rg_q (q_m rfl) ?_
 refine rg_q (q_call en43 (.cons rfl (.cons rfl .nil)) rfl (bsmall_p _ _ (by omega) (by omega))) ?_
 refine rg_q (q_not rfl) ?_
 refine xc (awp_cond rfl (fun hc1 => ?_) (fun hc1 => ?_))
 ·
  (try simp only [nb, ne_eq] at hc1)
  have hz : mvR0 s b = (zSpc, 2) := by unfold mvR0; rw [if_neg (by rw [hc1]; decide)]
  refine awp_seq ?_
  refine xa 1 ?_
  refine rg_q (q_build pl40 zr40 rfl .nil trivial rfl) ?_
  refine rg_nil ?_
  refine aops_store sz40 rfl rfl (by exact .inr ⟨_, rfl⟩) rfl rfl (by decide) rfl ?_
  refine aops_q rfl (q_a rfl) ?_
  refine aops_nil ?_
  change Awp _ _ _ _ _
  refine Awp.le (le_upB 4 (spcC zSpc) rfl (.cons (.nil 2) (.cons (.same _) (.cons (.same _) (.cons (.same _) (.cons (.same _) (.cons (.same _) (.cons (.same _) (.cons (.same _) (.cons (.same _) (.cons (.same _) (.cons (.same _) (.cons (.nil 1) (.cons (.nil 8) .nil)))))))))))))) ?_
  refine awp_ret ?_
  refine ⟨_, (.cons (.cellA rfl rfl sz40 rfl) xk1), ?_⟩
  rw [hz]; rfl
 ·
  (try simp only [nb, ne_eq] at hc1)
  have hbb : inR (-100000) b 100000 = true := hc1
  have hb2 : -100000 ≤ b ∧ b ≤ 100000 := by simpa [inR] using hc1
  refine awp_skip ?_
  change Awp _ _ _ _ _
  refine awp_seq ?_
  refine xa 1 ?_
  refine rg_q (q_load_refA sz40 rfl rfl rfl rfl) ?_
  refine rg_nil ?_
  refine aops_callL [13] [] en75 (copiedO_p s hl h2 h3 he hp h0) (.cons rfl .nil) rfl rfl rfl (by repeat (exact trivial)) (by repeat (first | exact trivial | refine ⟨rfl, ?_⟩)) rfl ?_
  refine aops_le (le_tbox (k := 2) (ts := [_, _, _, _, _, _, _, _, _, _, _, _, _]) rfl rfl) ?_
  refine aops_storeAg sz40 rfl rfl rfl rfl rfl rfl rfl ?_
  refine aops_nil (xq (awp_seq ?_))
  refine xa 4 ?_
  refine rg_q (q_fieldAddr_ref fld40_2 rfl) ?_
  refine rg_q (q_load_tb (x := .rs _) sz38 rfl rfl rfl) ?_
  refine rg_q (q_len_rs isl38 rfl rfl) ?_
  refine rg_q (q_m rfl) ?_
  refine rn ?_
  change Awp _ _ _ _ _
  skip
  (try simp only [List.length_map] at hl15)
  refine awp_block ?_
  refine awp_loopH [5, 6, 7, 17, 18, 19, 20, 21, 22, 23, 24, 25, 26, 27, 28, 29, 30, 31, 32, 33, 34, 35, 36, 37, 38, 39, 40, 41, 42, 43, 44, 45, 46, 47, 48, 49, 50, 51, 52, 53, 54, 55, 56, 57, 58, 59, 60, 61, 62, 63, 64, 65, 66] [2, 13] (α := Nat) (fun k => [(17, T.i (k : Int))]) (fun k => [(2, .tbox ((arrC s.ar ++ [D.sl 1 (s.pl.map iC)]).map T.d ++ [.rs 13])), (13, .row 48 8 ((mvL b s.fl k).map flwC))]) (fun k => k ≤ s.fl.length ∧ (s.fl.take k).all (mvB b) = true) (fun k => s.fl.length - k) 0 ⟨Nat.zero_le _, rfl⟩ ?_ ?_
  · exact xh (ms := [2, 13]) (by repeat (exact Out.refl _)) ⟨(by rfl), trivial⟩ ⟨(by rfl), (by rfl), trivial⟩
  ·
   intro k ⟨hk, hall⟩
   refine awp_seq ?_
   refine xa 1 ?_
   refine rg_q (q_lss rfl rfl) ?_
   refine rs (awp_cond rfl (fun hc5 => ?_) (fun hc5 => ?_))
   ·
    (try simp only [nb, ne_eq] at hc5)
    have hlt : k < s.fl.length := by omega
    obtain ⟨x, hx⟩ : ∃ x, s.fl[k]? = some x := ⟨_, List.getElem?_eq_getElem hlt⟩
    have hxo := hfl x (List.mem_of_getElem? hx)
    have ha1 := hxo.a1
    have hpl := hxo.pl
    have hml2 : ((mvL b s.fl k).map flwC).length = s.fl.length := by rw [List.length_map, mvL_len]
    have hrow : ((mvL b s.fl k).map flwC)[k]? = some (flwC x) := by rw [List.getElem?_map, mvL_at hx]; rfl
    have hrow2 := mv_row2 (b := b) hx
    refine awp_skip ?_
    change Awp _ _ _ _ _
    refine awp_seq ?_
    refine awp_block ?_
    refine awp_seq ?_
    refine xa 2 ?_
    refine rg_q (q_m rfl) (rg_q (q_a rfl) ?_)
    refine rs (xa 5 ?_)
    refine rg_q (q_fieldAddr_ref fld40_2 rfl) ?_
    refine rg_q (q_load_tb (x := .rs _) sz38 rfl rfl rfl) ?_
    refine rg_q (q_m rfl) ?_
    refine rg_q (q_indexAddr_rs sl38 rfl rfl rfl (by omega) (by omega)) ?_
    refine rg_q (q_assign (x := .ref _ _) rfl) ?_
    refine rs (xa 10 ?_)
    refine rg_q (q_move (x := .ref _ _) rfl) (rg_q (q_nilCheck_ref rfl) (rg_q (q_fieldAddr_ref fld48_1 rfl) (rg_q (q_fieldAddr_ref fld46_0 rfl) ?_)))
    refine rg_q (q_load_row sz3 rfl rfl (i := k) (j := 1) (by rw [Int.toNat_natCast]) hrow rfl) ?_
    refine rg_q (q_m rfl) ?_
    refine rg_q (q_add rfl rfl xi) ?_
    refine rg_q (q_nilCheck_ref rfl) (rg_q (q_fieldAddr_ref fld48_1 rfl) (rg_q (q_fieldAddr_ref fld46_0 rfl) ?_))
    refine rg_nil ?_
    refine aops_store_row sz3 rfl rfl (by exact .inl rfl) rfl rfl (i := k) (j := 1) (es' := (((mvL b s.fl k).map flwC).set k (flwC (mvA b x)))) (by rw [Int.toNat_natCast]) hrow (by decide) rfl ?_
    refine aops_nil (xq (awp_seq ?_))
    refine xa 5 ?_
    refine rg_q (q_move (x := .ref _ _) rfl) (rg_q (q_nilCheck_ref rfl) (rg_q (q_fieldAddr_ref fld48_0 rfl) ?_))
    refine rg_q (q_load_row sz3 rfl rfl (i := k) (j := 0) (by rw [Int.toNat_natCast]) (by rw [List.getElem?_set_self (by omega)]) rfl) ?_
    refine rg_q (q_eql rfl rfl) ?_
    refine xc (awp_cond rfl (fun hc9 => ?_) (fun hc9 => ?_))
    ·
     (try simp only [nb, ne_eq] at hc9)
     have hk1 : x.kd = 1 := hc9
     have hpl2 := (hpl (by omega)).1
     have hpl3 : (mvA b x).to_.1 = x.to_.1 := rfl
     refine xa 10 ?_
     refine rg_q (q_move (x := .ref _ _) rfl) (rg_q (q_nilCheck_ref rfl) (rg_q (q_fieldAddr_ref fld48_2 rfl) (rg_q (q_fieldAddr_ref fld46_0 rfl) ?_)))
     refine rg_q (q_load_row sz3 rfl rfl (i := k) (j := 3) (by rw [Int.toNat_natCast]) (by rw [List.getElem?_set_self (by omega)]) rfl) ?_
     refine rg_q (q_m rfl) ?_
     refine rg_q (q_add rfl rfl xi) ?_
     refine rg_q (q_nilCheck_ref rfl) (rg_q (q_fieldAddr_ref fld48_2 rfl) (rg_q (q_fieldAddr_ref fld46_0 rfl) ?_))
     refine rg_nil ?_
     refine aops_store_row sz3 rfl rfl (by exact .inl rfl) rfl rfl (i := k) (j := 3) (es' := (mvL b s.fl (k + 1)).map flwC) (by rw [Int.toNat_natCast]) (by rw [List.getElem?_set_self (by omega)]) (by decide) (by rw [List.set_set]; exact mv_row hx (mvT_eq hk1)) ?_
     refine aops_nil (xq (xa 16 ?_))
     refine rg_q (q_move (x := .ref _ _) rfl) (rg_q (q_nilCheck_ref rfl) (rg_q (q_fieldAddr_ref fld48_1 rfl) (rg_q (q_fieldAddr_ref fld46_0 rfl) ?_)))
     refine rg_q (q_load_row sz3 rfl rfl (i := k) (j := 1) (by rw [Int.toNat_natCast]) hrow2 rfl) ?_
     refine rg_q (q_call en43 (.cons rfl (.cons rfl .nil)) rfl (bsmall_p _ _ (by omega) (by omega))) ?_
     refine rg_q (q_not rfl) (rg_q (q_m rfl) ?_)
     refine rg_g rfl rfl (fun hG => (q_move (x := .ref _ _) rfl)) ?_
     refine rg_g rfl rfl (fun hG => (q_nilCheck_ref rfl)) ?_
     refine rg_g rfl rfl (fun hG => (q_fieldAddr_ref fld48_2 rfl)) ?_
     refine rg_g rfl rfl (fun hG => (q_fieldAddr_ref fld46_0 rfl)) ?_
     refine rg_g rfl rfl (fun hG => (q_load_row sz3 rfl rfl (i := k) (j := 3) (by rw [Int.toNat_natCast]) hrow2 rfl)) ?_
     refine rg_g rfl rfl (fun hG => (q_call en43 (.cons rfl (.cons rfl .nil)) rfl (bsmall_p _ _ (by omega) (by omega)))) ?_
     refine rg_g rfl rfl (fun hG => (q_not rfl)) ?_
     refine rg_pick rfl rfl rfl rfl rfl rfl ?_
     refine xc (awp_cond rfl (fun hc11 => ?_) (fun hc11 => ?_))
     ·
      (try simp only [nb, ne_eq] at hc11)
      have hb3 : mvB b x = false := by
       cases q : mvB b x with
       | false => rfl
       | true => unfold mvB at q; simp only [Bool.and_eq_true] at q; simp [q.1, q.2] at hc11
      have hz : mvR0 s b = (zSpc, 2) := by unfold mvR0; rw [if_pos hbb, if_neg (all_not hx hb3)]
      refine awp_seq ?_
      refine xa 1 ?_
      refine rg_q (q_build pl40 zr40 rfl .nil trivial rfl) ?_
      refine rg_nil ?_
      refine aops_store sz40 rfl rfl (by exact .inr ⟨_, rfl⟩) rfl rfl (by decide) rfl ?_
      refine aops_q rfl (q_a rfl) ?_
      refine aops_nil ?_
      change Awp _ _ _ _ _
      refine Awp.le (le_upB 4 (spcC zSpc) rfl (.cons (.nil 2) (.cons (.same _) (.cons (.same _) (.cons (.same _) (.cons (.same _) (.cons (.same _) (.cons (.same _) (.cons (.same _) (.cons (.same _) (.cons (.same _) (.cons (.same _) (.cons (.nil 1) (.cons (.nil 8) .nil)))))))))))))) ?_
      refine awp_ret ?_
      refine ⟨_, (.cons (.cellA rfl rfl sz40 rfl) xk1), ?_⟩
      rw [hz]; rfl
     ·
      (try simp only [nb, ne_eq] at hc11)
      have hb3 : mvB b x = true := by
       unfold mvB
       exact (Bool.and_eq_true _ _).mpr ⟨hc11.1, hc11.2⟩
      refine awp_skip ?_
      change Awp _ _ _ _ _
      refine xa 2 ?_
      refine rg_q (q_add rfl rfl xi) ?_
      refine rg_q (q_m rfl) ?_
      refine rn ?_
      refine ⟨k + 1, ⟨by omega, all_step hx hall hb3⟩, by omega, ?_⟩
      exact xh (ms := [2, 13]) (by repeat (first | exact Out.head rfl rfl | (refine Out.put ?_ rfl) | (refine Out.site ?_ rfl))) ⟨(by rfl), trivial⟩ ⟨(by rfl), (by rfl), trivial⟩
    ·
     (try simp only [nb, ne_eq] at hc9)
     have hk1 : ¬ x.kd = 1 := hc9
     rw [mv_row hx (mvA_eq hk1)]
     refine awp_skip ?_
     change Awp _ _ _ _ _
     refine awp_seq ?_
     refine xa 16 ?_
     refine rg_q (q_move (x := .ref _ _) rfl) (rg_q (q_nilCheck_ref rfl) (rg_q (q_fieldAddr_ref fld48_1 rfl) (rg_q (q_fieldAddr_ref fld46_0 rfl) ?_)))
     refine rg_q (q_load_row sz3 rfl rfl (i := k) (j := 1) (by rw [Int.toNat_natCast]) hrow2 rfl) ?_
     refine rg_q (q_call en43 (.cons rfl (.cons rfl .nil)) rfl (bsmall_p _ _ (by omega) (by omega))) ?_
     refine rg_q (q_not rfl) (rg_q (q_m rfl) ?_)
     refine rg_g rfl rfl (fun hG => (q_move (x := .ref _ _) rfl)) ?_
     refine rg_g rfl rfl (fun hG => (q_nilCheck_ref rfl)) ?_
     refine rg_g rfl rfl (fun hG => (q_fieldAddr_ref fld48_2 rfl)) ?_
     refine rg_g rfl rfl (fun hG => (q_fieldAddr_ref fld46_0 rfl)) ?_
     refine rg_g rfl rfl (fun hG => (q_load_row sz3 rfl rfl (i := k) (j := 3) (by rw [Int.toNat_natCast]) hrow2 rfl)) ?_
     refine rg_g rfl rfl (fun hG => (q_call en43 (.cons rfl (.cons rfl .nil)) rfl (bsmall_p _ _ (by omega) (by omega)))) ?_
     refine rg_g rfl rfl (fun hG => (q_not rfl)) ?_
     refine rg_pick rfl rfl rfl rfl rfl rfl ?_
     refine xc (awp_cond rfl (fun hc11 => ?_) (fun hc11 => ?_))
     ·
      (try simp only [nb, ne_eq] at hc11)
      have hb3 : mvB b x = false := by
       cases q : mvB b x with
       | false => rfl
       | true => unfold mvB at q; simp only [Bool.and_eq_true] at q; simp [q.1, q.2] at hc11
      have hz : mvR0 s b = (zSpc, 2) := by unfold mvR0; rw [if_pos hbb, if_neg (all_not hx hb3)]
      refine awp_seq ?_
      refine xa 1 ?_
      refine rg_q (q_build pl40 zr40 rfl .nil trivial rfl) ?_
      refine rg_nil ?_
      refine aops_store sz40 rfl rfl (by exact .inr ⟨_, rfl⟩) rfl rfl (by decide) rfl ?_
      refine aops_q rfl (q_a rfl) ?_
      refine aops_nil ?_
      change Awp _ _ _ _ _
      refine Awp.le (le_upB 4 (spcC zSpc) rfl (.cons (.nil 2) (.cons (.same _) (.cons (.same _) (.cons (.same _) (.cons (.same _) (.cons (.same _) (.cons (.same _) (.cons (.same _) (.cons (.same _) (.cons (.same _) (.cons (.same _) (.cons (.nil 1) (.cons (.nil 8) .nil)))))))))))))) ?_
      refine awp_ret ?_
      refine ⟨_, (.cons (.cellA rfl rfl sz40 rfl) xk1), ?_⟩
      rw [hz]; rfl
     ·
      (try simp only [nb, ne_eq] at hc11)
      have hb3 : mvB b x = true := by
       unfold mvB
       exact (Bool.and_eq_true _ _).mpr ⟨hc11.1, hc11.2⟩
      refine awp_skip ?_
      change Awp _ _ _ _ _
      refine xa 2 ?_
      refine rg_q (q_add rfl rfl xi) ?_
      refine rg_q (q_m rfl) ?_
      refine rn ?_
      refine ⟨k + 1, ⟨by omega, all_step hx hall hb3⟩, by omega, ?_⟩
      exact xh (ms := [2, 13]) (by repeat (first | exact Out.head rfl rfl | (refine Out.put ?_ rfl) | (refine Out.site ?_ rfl))) ⟨(by rfl), trivial⟩ ⟨(by rfl), (by rfl), trivial⟩
   ·
    (try simp only [nb, ne_eq] at hc5)
    have hkn : k = s.fl.length := by omega
    subst hkn
    have hall2 : s.fl.all (mvB b) = true := by rw [List.take_length] at hall; exact hall
    have hz : mvR0 s b = (mvS s b, 0) := by unfold mvR0; rw [if_pos hbb, if_pos hall2]
    rw [mvL_all]
    refine awp_exit ?_
    change Awp _ _ _ _ _
    refine awp_seq ?_
    refine Awp.le (le_freezeTB 2 13 12 rfl rfl rfl rfl hmine) ?_
    refine Awp.le (le_boxT 2 (spcC (mvS s b)) rfl rfl (by intro j d h; match j, h with | 0, h | 1, h | 2, h | 3, h | 4, h | 5, h | 6, h | 7, h | 8, h | 9, h | 10, h | 11, h | 12, h => cases h; rfl)) ?_
    refine xa 1 ?_
    refine rg_q (q_load_refA sz40 rfl rfl rfl rfl) ?_
    refine rg_nil ?_
    refine aops_store sz40 rfl rfl (by exact .inr ⟨_, rfl⟩) rfl rfl (by decide) rfl ?_
    refine aops_q rfl (q_a rfl) ?_
    refine aops_nil ?_
    change Awp _ _ _ _ _
    refine awp_ret ?_
    refine ⟨_, (.cons (.cellA rfl rfl sz40 rfl) xk1), ?_⟩
    rw [hz]; rfl
theorem movedN_p (s : Spc) (hl : s.ar.el.length ≤ 1000) (h2 : s.pl.length ≤ 1000) (h3 : s.fl.length ≤ 1000) (he : 0 < s.ar.el.length) (hp : 0 < s.pl.length) (b : Int) (hn : s.fl.length = 0) : PC Try.prog 51 [.agg (spcC s), .v (.int .i64 (b))] (.tup [.agg (spcC (mvR0 s b).1), .v (.int .i64 ((mvR0 s b).2))]) := by
 have hml : (s.fl.map flwC).length = s.fl.length := List.length_map _
 have hS : mvS s b = s := by unfold mvS; rw [List.length_eq_zero_iff.1 hn]; have e := List.length_eq_zero_iff.1 hn; cases s; simp only at e; subst e; rfl
 refine pc_of_awpN Try.func51 rfl Try.ntmps51 (rs := [.cell 4 40, .tmp 5]) Try.results51 (by simp) fun w0 hmine hrnd hpn => ?_
 refine awp_seq ?_
 refine xa 0 ?_
 refine rg_nil ?_
 refine aops_box rfl (by exact .inr ⟨_, rfl⟩) rfl rfl rfl ?_
 refine aops_alloc zr40 rfl rfl rfl ?_
 refine aops_q rfl (q_a rfl) ?_
 refine aops_nil (xq (awp_seq ?_))
 refine xa 3 ?_
 refine rg_q (q_m rfl) ?_
 refine rg_q (q_call en43 (.cons rfl (.cons rfl .nil)) rfl (bsmall_p _ _ (by omega) (by omega))) ?_
 refine rg_q (q_not rfl) ?_
 refine xc (awp_cond rfl (fun hc1 => ?_) (fun hc1 => ?_))
 ·
  (try simp only [nb, ne_eq] at hc1)
  have hz : mvR0 s b = (zSpc, 2) := by unfold mvR0; rw [if_neg (by rw [hc1]; decide)]
  refine awp_seq ?_
  refine xa 1 ?_
  refine rg_q (q_build pl40 zr40 rfl .nil trivial rfl) ?_
  refine rg_nil ?_
  refine aops_store sz40 rfl rfl (by exact .inr ⟨_, rfl⟩) rfl rfl (by decide) rfl ?_
  refine aops_q rfl (q_a rfl) ?_
  refine aops_nil ?_
  change Awp _ _ _ _ _
  refine Awp.le (le_upB 4 (spcC zSpc) rfl (.cons (.nil 2) (.cons (.same _) (.cons (.same _) (.cons (.same _) (.cons (.same _) (.cons (.same _) (.cons (.same _) (.cons (.same _) (.cons (.same _) (.cons (.same _) (.cons (.same _) (.cons (.nil 1) (.cons (.nil 8) .nil)))))))))))))) ?_
  refine awp_ret ?_
  refine ⟨_, (.cons (.cellA rfl rfl sz40 rfl) xk1), ?_⟩
  rw [hz]; rfl
 ·
  (try simp only [nb, ne_eq] at hc1)
  have hbb : inR (-100000) b 100000 = true := hc1
  refine awp_skip ?_
  change Awp _ _ _ _ _
  refine awp_seq ?_
  refine xa 2 ?_
  refine rg_q (q_load_refA sz40 rfl rfl rfl rfl) ?_
  refine rg_q (q_call en75 (.cons rfl .nil) rfl (copiedN_p s hl h2 h3 he hp hn)) ?_
  refine rg_nil ?_
  refine aops_store sz40 rfl rfl (by exact .inr ⟨_, rfl⟩) rfl rfl (by exact Nat.le_of_ble_eq_true rfl) rfl ?_
  refine aops_nil (xq (awp_seq ?_))
  refine xa 4 ?_
  refine rg_q (q_fieldAddr_ref fld40_2 rfl) (rg_q (q_load_ref sz38 rfl rfl rfl) ?_)
  refine rg_q (q_len isl38 rfl (by exact len_map _ _)) ?_
  refine rg_q (q_m rfl) ?_
  refine xc (awp_len (t := 15) rfl (fun hl15 => ?_))
  (try simp only [List.length_map] at hl15)
  refine awp_block ?_
  refine awp_loopH [5, 6, 7, 17, 18, 19, 20, 21, 22, 23, 24, 25, 26, 27, 28, 29, 30, 31, 32, 33, 34, 35, 36, 37, 38, 39, 40, 41, 42, 43, 44, 45, 46, 47, 48, 49, 50, 51, 52, 53, 54, 55, 56, 57, 58, 59, 60, 61, 62, 63, 64, 65, 66] [] (α := Nat) (fun k => [(17, T.i (k : Int))]) (fun k => []) (fun k => k = 0) (fun k => 0) 0 rfl ?_ ?_
  · exact xh (ms := []) (by repeat (exact Out.refl _)) ⟨(by rfl), trivial⟩ trivial
  ·
   intro k hk
   subst hk
   refine awp_seq ?_
   refine xa 1 ?_
   refine rg_q (q_lss rfl rfl) ?_
   refine rs (awp_cond rfl (fun hc5 => ?_) (fun hc5 => ?_))
   ·
    exact absurd (of_decide_eq_true hc5) (by omega)
   ·
    (try simp only [nb, ne_eq] at hc5)
    have hz : mvR0 s b = (s, 0) := by unfold mvR0; rw [if_pos hbb, if_pos (by rw [List.length_eq_zero_iff.1 hn]; rfl), hS]
    refine awp_exit ?_
    change Awp _ _ _ _ _
    refine awp_seq ?_
    refine xa 1 ?_
    refine rg_q (q_load_refA sz40 rfl rfl rfl rfl) ?_
    refine rg_nil ?_
    refine aops_store sz40 rfl rfl (by exact .inr ⟨_, rfl⟩) rfl rfl (by decide) rfl ?_
    refine aops_q rfl (q_a rfl) ?_
    refine aops_nil ?_
    change Awp _ _ _ _ _
    refine awp_ret ?_
    refine ⟨_, (.cons (.cellA rfl rfl sz40 rfl) xk1), ?_⟩
    rw [hz]; rfl

theorem moved0_p (s : Spc) (hl : s.ar.el.length ≤ 1000) (h2 : s.pl.length ≤ 1000) (h3 : s.fl.length ≤ 1000) (he : 0 < s.ar.el.length) (hp : 0 < s.pl.length) (b : Int) (hfl : ∀ x ∈ s.fl, FlwOk x) : PC Try.prog 51 [.agg (spcC s), .v (.int .i64 (b))] (.tup [.agg (spcC (mvR0 s b).1), .v (.int .i64 ((mvR0 s b).2))]) := by
  by_cases h0 : s.fl.length = 0
  · exact movedN_p s hl h2 h3 he hp b h0
  · exact movedO_p s hl h2 h3 he hp b (by omega) hfl
theorem moved_p (s : Spc) (b : Int) : PC Try.prog 21 [.agg (spcC s), .v (.int .i64 (b))] (.tup [.agg (spcC (mvR s b).1), .v (.int .i64 ((mvR s b).2))]) := by
 refine pc_of_awpN Try.func21 rfl Try.ntmps21 (rs := [.cell 4 40, .tmp 5]) Try.results21 (by simp) fun w0 hmine hrnd hpn => ?_
 refine awp_seq ?_
 refine xa 1 ?_
 refine rg_q (q_box rfl (by exact .inr ⟨_, rfl⟩)) ?_
 refine rg_nil ?_
 refine aops_alloc zr40 rfl rfl rfl ?_
 refine aops_q rfl (q_a rfl) ?_
 refine aops_nil (xq (awp_seq ?_))
 refine xa 7 ?_
 refine rg_q (q_loadA sz40 rfl rfl rfl) ?_
 refine rg_q (q_call en50 (.cons rfl .nil) rfl (checkSpecimen_p _)) ?_
 refine rg_q (q_move (x := .d (.tup _)) rfl) (rg_q (q_extract rfl rfl) (rg_q (q_extract rfl rfl) (rg_q (q_a rfl) (rg_q (q_a rfl) ?_))))
 refine rs (xa 2 ?_)
 refine rg_q (q_m rfl) (rg_q (q_neq rfl rfl) ?_)
 refine xc (awp_cond rfl (fun hc2 => ?_) (fun hc2 => ?_))
 ·
  (try simp only [nb, ne_eq] at hc2)
  have hz : mvR s b = (zSpc, (ckSpc s).2) := by unfold mvR; rw [if_pos hc2]
  refine awp_seq ?_
  refine xa 2 ?_
  refine rg_q (q_build pl40 zr40 rfl .nil trivial rfl) ?_
  refine rg_q (q_m rfl) ?_
  refine rg_nil ?_
  refine aops_store sz40 rfl rfl (by exact .inr ⟨_, rfl⟩) rfl rfl (by decide) rfl ?_
  refine aops_q rfl (q_a rfl) ?_
  refine aops_nil ?_
  change Awp _ _ _ _ _
  refine Awp.le (le_upB 4 (spcC zSpc) rfl (.cons (.nil 2) (.cons (.same _) (.cons (.same _) (.cons (.same _) (.cons (.same _) (.cons (.same _) (.cons (.same _) (.cons (.same _) (.cons (.same _) (.cons (.same _) (.cons (.same _) (.cons (.nil 1) (.cons (.nil 8) .nil)))))))))))))) ?_
  refine awp_ret ?_
  refine ⟨_, (.cons (.cellA rfl rfl sz40 rfl) xk1), ?_⟩
  rw [hz]; rfl
 ·
  (try simp only [nb, ne_eq] at hc2)
  have h0 : (ckSpc s).2 = 0 := hc2
  have hsp := spc_ok h0
  have hok := hsp.ar
  have hn1 := hok.n1
  have hn2 := hok.n2
  have hp1 := hsp.p1
  have hp0 := (plsE_ok (spc_pulse h0)).1
  have hf1 := hsp.f1
  have hz : mvR s b = mvR0 s b := by unfold mvR; rw [if_neg (fun q => q h0)]
  refine awp_skip ?_
  change Awp _ _ _ _ _
  refine awp_seq ?_
  refine xa 5 ?_
  refine rg_q (q_loadA sz40 rfl rfl rfl) ?_
  refine rg_q (q_m rfl) ?_
  refine rg_q (q_call en51 (.cons rfl (.cons rfl .nil)) rfl (moved0_p s (by omega) (by omega) (by omega) (by omega) (by omega) b hsp.fl)) ?_
  refine rg_q (q_extract rfl rfl) (rg_q (q_extract rfl rfl) ?_)
  refine rg_nil ?_
  refine aops_store sz40 rfl rfl (by exact .inr ⟨_, rfl⟩) rfl rfl (by decide) rfl ?_
  refine aops_q rfl (q_a rfl) ?_
  refine aops_nil ?_
  change Awp _ _ _ _ _
  refine awp_ret ?_
  refine ⟨_, (.cons (.cellA rfl rfl sz40 rfl) xk1), ?_⟩
  rw [hz]; rfl

end Go.Proofs.Ytamaocfjknpadaa.Am.M
-- mini
set_option maxRecDepth 100000
namespace Go.Proofs.Ytamaocfjknpadaa.Am.M
open Go
theorem cloneSO_p (es : List (List D)) (h0 : 0 < es.length) (hl : es.length ≤ 20000) : PCS Try.prog 91 [.d (.sl 2 es)] [] (.rs 0) [.row 46 2 es] := by
 refine pcs_of_awp Try.func91 rfl Try.ntmps91 (rs := [.tmp 2]) Try.results91 (by simp) fun w0 => ?_
 refine awp_seq ?_
 refine xa 1 ?_
 refine rg_q (q_assign (x := .d (.sl _ _)) rfl) ?_
 refine rs (awp_seq ?_)
 refine xa 2 ?_
 refine rg_q (q_move (x := .d (.sl _ _)) rfl) ?_
 refine rg_q (q_eqnil_sl sl31 rfl (by (try simp only [List.length_map]); omega)) ?_
 refine xc (awp_cond rfl (fun hc1 => ?_) (fun hc1 => ?_))
 ·
  cases hc1
 ·
  (try simp only [nb, ne_eq] at hc1)
  refine awp_skip ?_
  change Awp _ _ _ _ _
  refine awp_seq ?_
  refine xa 2 ?_
  refine rg_q (q_empty0 sl31 zr46) ?_
  refine rg_q (q_move (x := .d (.sl _ _)) rfl) ?_
  refine rg_nil ?_
  refine aops_append0 sl31 zr46 by46 rfl (by decide) rfl rfl rfl h0 (by omega) (by omega) rfl rfl ?_
  refine aops_q rfl (q_assign (x := .rs _) rfl) ?_
  refine aops_nil ?_
  change Awp _ _ _ _ _
  refine awp_ret ?_
  exact end_mk (.inl rfl) [7] (.tmp rfl) (by repeat (first | exact trivial | refine ⟨rfl, ?_⟩)) rfl

theorem shC_flat (x : Int × Int) : ∀ d ∈ shC x, D.Flat d := by
  intro d hd
  simp only [shC, List.mem_cons, List.not_mem_nil, or_false] at hd
  rcases hd with rfl | rfl <;> exact .v _
def spcT (s : Spc) : List D := (arrC s.ar).tail ++ [D.sl 1 (s.pl.map iC)]
theorem copied2_p (s : Spc) (hl : s.ar.el.length ≤ 1000) (h2 : s.pl.length ≤ 1000) (h3 : s.fl.length ≤ 1000) (he : 0 < s.ar.el.length) (hp : 0 < s.pl.length) (h0 : 0 < s.fl.length) : PCS2 Try.prog 75 [.d (.agg (spcC s))] [] (fun V => .ag 0 (.v V :: (spcT s)) []) [.row 48 8 (s.fl.map flwC), .row 46 2 (s.ar.el.map shC)] := by
  refine pcs2_of_awp Try.func75 rfl Try.ntmps75 Try.results75 (by simp) rfl fun w0 hmine hrnd hpn => ?_
  refine awp_seq ?_
  refine xa 0 ?_
  refine rg_nil ?_
  refine aops_box rfl (by exact .inr ⟨_, rfl⟩) rfl rfl rfl ?_
  refine aops_alloc zr40 rfl rfl rfl ?_
  refine aops_nil (xq (awp_regionM 17 [none, none, none, some 6, none, none, none, none, none, some 12, none, none, some 1, none, some 1, none, some 1] mixed (by kernel_rfl) ?_))
  refine rgm_q rfl (q_fieldAddr_ref fld40_0 rfl) ?_
  refine rgm_q rfl (q_fieldAddr_ref fld37_0 rfl) ?_
  refine rgm_q rfl (q_load_ref sz31 rfl rfl rfl) ?_
  refine rgm_m (k := 6) rfl rfl (by rfl) (m_callN en91 (cloneSO_p (s.ar.el.map shC) (by rw [List.length_map]; omega) (by rw [List.length_map]; omega)) rfl (.cons rfl .nil) rfl (flat_row shC 46 2 s.ar.el shC_flat)) ?_
  refine rgm_q rfl (q_fieldAddr_ref fld40_1 rfl) ?_
  refine rgm_q rfl (q_load_ref sz23 rfl rfl rfl) ?_
  refine rgm_q rfl (q_call en92 (.cons rfl .nil) rfl (cloneI_p _ (by rw [List.length_map]; omega) (by rw [List.length_map]; omega))) ?_
  refine rgm_q rfl (q_fieldAddr_ref fld40_2 rfl) ?_
  refine rgm_q rfl (q_load_ref sz38 rfl rfl rfl) ?_
  refine rgm_m (k := 12) rfl rfl (by rfl) (m_callN en93 (cloneO_p (s.fl.map flwC) (by rw [List.length_map]; exact h0) (by rw [List.length_map]; omega)) rfl (.cons rfl .nil) rfl (flat_row flwC 48 8 s.fl flwC_flat)) ?_
  refine rgm_q rfl (q_fieldAddr_ref fld40_0 rfl) ?_
  refine rgm_q rfl (q_fieldAddr_ref fld37_0 rfl) ?_
  refine rgm_m (k := 1) rfl rfl (by rfl) (m_storeR sz31 rfl rfl rfl (Nat.le_of_ble_eq_true rfl) rfl) ?_
  refine rgm_q rfl (q_fieldAddr_ref fld40_1 rfl) ?_
  refine rgm_m (k := 1) rfl rfl (by rfl) (m_storeTD sz23 rfl rfl rfl rfl (Nat.le_of_ble_eq_true rfl) rfl) ?_
  refine rgm_q rfl (q_fieldAddr_ref fld40_2 rfl) ?_
  refine rgm_m (k := 1) rfl rfl (by rfl) (m_storeTR sz38 rfl rfl rfl (Nat.le_of_ble_eq_true rfl) rfl) ?_
  refine rgm_nil (aops_nil ?_)
  change Awp _ _ _ _ _
  refine awp_seq ?_
  refine Awp.le (le_tbox (k := 2) (ts := [_, _, _, _, _, _, _, _, _, _, _, _, _]) rfl rfl) ?_
  refine xa 0 ?_
  refine rg_nil ?_
  refine aops_load2 (u := (spcT s)) 3 sz40 rfl rfl rfl rfl rfl rfl (fun V => ?_)
  refine aops_storeAg sz40 rfl rfl rfl rfl rfl rfl rfl ?_
  refine aops_nil ?_
  change Awp _ _ _ _ _
  refine Awp.le (le_ghost 2 0 6 3 rfl rfl rfl ⟨_, _, _, rfl⟩ rfl rfl) ?_
  refine awp_ret ?_
  exact enda2_mk (.inl rfl) [12, 6] ⟨2, 12, 6, 13, (spcT s), rfl, rfl, sz40, rfl, fun _ => rfl, rfl⟩ (by repeat (first | exact trivial | refine ⟨rfl, ?_⟩)) (fun _ => rfl) rfl
theorem copiedE_p (s : Spc) (hl : s.ar.el.length ≤ 1000) (h2 : s.pl.length ≤ 1000) (h3 : s.fl.length ≤ 1000) (he : 0 < s.ar.el.length) (hp : 0 < s.pl.length) (hn : s.fl.length = 0) : PCS Try.prog 75 [.d (.agg (spcC s))] [] (.ag 0 [] (spcT (s) ++ [D.sl 8 ((s).fl.map flwC)])) [.row 46 2 (s.ar.el.map shC)] := by
 refine pcs_of_awpA Try.func75 rfl Try.ntmps75 Try.results75 (by simp) fun w0 hrnd => ?_
 refine awp_seq ?_
 refine xa 0 ?_
 refine rg_nil ?_
 refine aops_box rfl (by exact .inr ⟨_, rfl⟩) rfl rfl rfl ?_
 refine aops_alloc zr40 rfl rfl rfl ?_
 refine aops_nil (xq (awp_regionM 17 [none, none, none, some 6, none, none, none, none, none, none, none, none, some 1, none, some 1, none, some 1] mixed (by kernel_rfl) ?_))
 refine rgm_q rfl (q_fieldAddr_ref fld40_0 rfl) ?_
 refine rgm_q rfl (q_fieldAddr_ref fld37_0 rfl) ?_
 refine rgm_q rfl (q_load_ref sz31 rfl rfl rfl) ?_
 refine rgm_m (k := 6) rfl rfl (by rfl) (m_callN en91 (cloneSO_p (s.ar.el.map shC) (by rw [List.length_map]; omega) (by rw [List.length_map]; omega)) rfl (.cons rfl .nil) rfl (flat_row shC 46 2 s.ar.el shC_flat)) ?_
 refine rgm_q rfl (q_fieldAddr_ref fld40_1 rfl) ?_
 refine rgm_q rfl (q_load_ref sz23 rfl rfl rfl) ?_
 refine rgm_q rfl (q_call en92 (.cons rfl .nil) rfl (cloneI_p _ (by rw [List.length_map]; omega) (by rw [List.length_map]; omega))) ?_
 refine rgm_q rfl (q_fieldAddr_ref fld40_2 rfl) ?_
 refine rgm_q rfl (q_load_ref sz38 rfl rfl rfl) ?_
 refine rgm_q rfl (q_call en93 (.cons rfl .nil) rfl (cloneE_p (s.fl.map flwC) (by rw [List.length_eq_zero_iff.1 hn]; rfl))) ?_
 refine rgm_q rfl (q_fieldAddr_ref fld40_0 rfl) ?_
 refine rgm_q rfl (q_fieldAddr_ref fld37_0 rfl) ?_
 refine rgm_m (k := 1) rfl rfl (by rfl) (m_storeR sz31 rfl rfl rfl (Nat.le_of_ble_eq_true rfl) rfl) ?_
 refine rgm_q rfl (q_fieldAddr_ref fld40_1 rfl) ?_
 refine rgm_m (k := 1) rfl rfl (by rfl) (m_storeTD sz23 rfl rfl rfl rfl (Nat.le_of_ble_eq_true rfl) rfl) ?_
 refine rgm_q rfl (q_fieldAddr_ref fld40_2 rfl) ?_
 refine rgm_m (k := 1) rfl rfl (by rfl) (m_storeTD sz38 rfl rfl rfl rfl (Nat.le_of_ble_eq_true rfl) rfl) ?_
 refine rgm_nil (aops_nil ?_)
 change Awp _ _ _ _ _
 refine awp_seq ?_
 refine Awp.le (le_tbox (k := 2) (ts := [_, _, _, _, _, _, _, _, _, _, _, _, _]) rfl rfl) ?_
 refine xa 1 ?_
 refine rg_q (q_load_ag (u := []) (v := (spcT (s) ++ [D.sl 8 ((s).fl.map flwC)])) sz40 rfl rfl rfl rfl) ?_
 refine rg_nil ?_
 refine aops_storeAg sz40 rfl rfl rfl rfl rfl rfl rfl ?_
 refine aops_nil ?_
 change Awp _ _ _ _ _
 refine awp_ret ?_
 exact enda_mk (.inl rfl) [6] ⟨2, 6, 13, [], (spcT (s) ++ [D.sl 8 ((s).fl.map flwC)]), rfl, rfl, sz40, rfl, rfl⟩ (by repeat (first | exact trivial | refine ⟨rfl, ?_⟩)) rfl
theorem movedE_p (s : Spc) (hl : s.ar.el.length ≤ 1000) (h2 : s.pl.length ≤ 1000) (h3 : s.fl.length ≤ 1000) (he : 0 < s.ar.el.length) (hp : 0 < s.pl.length) (b : Int) (hbb : inR (-100000) b 100000 = true) (hal : s.fl.all (mvB b) = true) (h0 : 0 < s.fl.length) (hfl : ∀ x ∈ s.fl, FlwOk x) : PCS Try.prog 51 [.d (.agg (spcC s)), .d (.v (.int .i64 (b)))] [] (T.tag 0 [] (spcT (mvS s b) ++ [D.sl 8 ((mvS s b).fl.map flwC)]) (.v (.int .i64 0))) [.row 46 2 (s.ar.el.map shC)] := by
 have hml : (s.fl.map flwC).length = s.fl.length := List.length_map _
 have hb2 : -100000 ≤ b ∧ b ≤ 100000 := by simpa [inR] using hbb
 refine pcs_of_awpV Try.func51 rfl Try.ntmps51 Try.results51 (by simp) rfl fun w0 hmine hrnd hpn => ?_
 refine awp_seq ?_
 refine xa 0 ?_
 refine rg_nil ?_
 refine aops_box rfl (by exact .inr ⟨_, rfl⟩) rfl rfl rfl ?_
 refine aops_alloc zr40 rfl rfl rfl ?_
 refine aops_q rfl (q_a rfl) ?_
 refine aops_nil (xq (awp_seq ?_))
 refine xa 3 ?_
 refine rg_q (q_m rfl) ?_
 refine rg_q (q_call en43 (.cons rfl (.cons rfl .nil)) rfl (bsmall_p _ _ (by omega) (by omega))) ?_
 refine rg_q (q_not rfl) ?_
 refine xc (awp_cond rfl (fun hc1 => ?_) (fun hc1 => ?_))
 ·
  simp [hbb] at hc1
 ·
  (try simp only [nb, ne_eq] at hc1)
  refine awp_skip ?_
  change Awp _ _ _ _ _
  refine awp_seq ?_
  refine xa 1 ?_
  refine rg_q (q_load_refA sz40 rfl rfl rfl rfl) ?_
  refine rg_nil ?_
  refine aops_callL2 3 [13, 14] [] en75 (copied2_p s hl h2 h3 he hp h0) (.cons rfl .nil) (fun _ => rfl) rfl ⟨_, _, _, rfl⟩ (Nat.le_of_ble_eq_true rfl) rfl rfl (by repeat (exact trivial)) (by repeat (first | exact trivial | refine ⟨rfl, ?_⟩)) rfl (fun V => ?_)
  refine aops_le (le_tbox (k := 2) (ts := [_, _, _, _, _, _, _, _, _, _, _, _, _]) rfl rfl) ?_
  refine aops_storeAg sz40 rfl rfl rfl rfl rfl rfl rfl ?_
  refine aops_nil ?_
  change Awp _ _ _ _ _
  refine Awp.le (le_ghost 2 0 14 3 rfl rfl rfl ⟨_, _, _, rfl⟩ rfl rfl) ?_
  refine awp_seq ?_
  refine awp_seq ?_
  refine xa 4 ?_
  refine rg_q (q_fieldAddr_ref fld40_2 rfl) ?_
  refine rg_q (q_load_tb (x := .rs _) sz38 rfl rfl rfl) ?_
  refine rg_q (q_len_rs isl38 rfl rfl) ?_
  refine rg_q (q_m rfl) ?_
  refine rn ?_
  change Awp _ _ _ _ _
  skip
  (try simp only [List.length_map] at hl15)
  refine awp_block ?_
  refine awp_loopH [5, 6, 7, 17, 18, 19, 20, 21, 22, 23, 24, 25, 26, 27, 28, 29, 30, 31, 32, 33, 34, 35, 36, 37, 38, 39, 40, 41, 42, 43, 44, 45, 46, 47, 48, 49, 50, 51, 52, 53, 54, 55, 56, 57, 58, 59, 60, 61, 62, 63, 64, 65, 66] [2, 13] (α := Nat) (fun k => [(17, T.i (k : Int))]) (fun k => [(2, .tbox (.rs 14 :: ((spcT s).map T.d ++ [.rs 13]))), (13, .row 48 8 ((mvL b s.fl k).map flwC))]) (fun k => k ≤ s.fl.length) (fun k => s.fl.length - k) 0 (Nat.zero_le _) ?_ ?_
  · exact xh (ms := [2, 13]) (by repeat (exact Out.refl _)) ⟨(by rfl), trivial⟩ ⟨(by rfl), (by rfl), trivial⟩
  ·
   intro k hk
   refine awp_seq ?_
   refine xa 1 ?_
   refine rg_q (q_lss rfl rfl) ?_
   refine rs (awp_cond rfl (fun hc5 => ?_) (fun hc5 => ?_))
   ·
    (try simp only [nb, ne_eq] at hc5)
    have hlt : k < s.fl.length := by omega
    obtain ⟨x, hx⟩ : ∃ x, s.fl[k]? = some x := ⟨_, List.getElem?_eq_getElem hlt⟩
    have hxo := hfl x (List.mem_of_getElem? hx)
    have ha1 := hxo.a1
    have hpl := hxo.pl
    have hb3 := List.all_eq_true.1 hal x (List.mem_of_getElem? hx)
    have hml2 : ((mvL b s.fl k).map flwC).length = s.fl.length := by rw [List.length_map, mvL_len]
    have hrow : ((mvL b s.fl k).map flwC)[k]? = some (flwC x) := by rw [List.getElem?_map, mvL_at hx]; rfl
    have hrow2 := mv_row2 (b := b) hx
    refine awp_skip ?_
    change Awp _ _ _ _ _
    refine awp_seq ?_
    refine awp_block ?_
    refine awp_seq ?_
    refine xa 2 ?_
    refine rg_q (q_m rfl) (rg_q (q_a rfl) ?_)
    refine rs (xa 5 ?_)
    refine rg_q (q_fieldAddr_ref fld40_2 rfl) ?_
    refine rg_q (q_load_tb (x := .rs _) sz38 rfl rfl rfl) ?_
    refine rg_q (q_m rfl) ?_
    refine rg_q (q_indexAddr_rs sl38 rfl rfl rfl (by omega) (by omega)) ?_
    refine rg_q (q_assign (x := .ref _ _) rfl) ?_
    refine rs (xa 10 ?_)
    refine rg_q (q_move (x := .ref _ _) rfl) (rg_q (q_nilCheck_ref rfl) (rg_q (q_fieldAddr_ref fld48_1 rfl) (rg_q (q_fieldAddr_ref fld46_0 rfl) ?_)))
    refine rg_q (q_load_row sz3 rfl rfl (i := k) (j := 1) (by rw [Int.toNat_natCast]) hrow rfl) ?_
    refine rg_q (q_m rfl) ?_
    refine rg_q (q_add rfl rfl xi) ?_
    refine rg_q (q_nilCheck_ref rfl) (rg_q (q_fieldAddr_ref fld48_1 rfl) (rg_q (q_fieldAddr_ref fld46_0 rfl) ?_))
    refine rg_nil ?_
    refine aops_store_row sz3 rfl rfl (by exact .inl rfl) rfl rfl (i := k) (j := 1) (es' := (((mvL b s.fl k).map flwC).set k (flwC (mvA b x)))) (by rw [Int.toNat_natCast]) hrow (by decide) rfl ?_
    refine aops_nil (xq (awp_seq ?_))
    refine xa 5 ?_
    refine rg_q (q_move (x := .ref _ _) rfl) (rg_q (q_nilCheck_ref rfl) (rg_q (q_fieldAddr_ref fld48_0 rfl) ?_))
    refine rg_q (q_load_row sz3 rfl rfl (i := k) (j := 0) (by rw [Int.toNat_natCast]) (by rw [List.getElem?_set_self (by omega)]) rfl) ?_
    refine rg_q (q_eql rfl rfl) ?_
    refine xc (awp_cond rfl (fun hc9 => ?_) (fun hc9 => ?_))
    ·
     (try simp only [nb, ne_eq] at hc9)
     have hk1 : x.kd = 1 := hc9
     have hpl2 := (hpl (by omega)).1
     have hpl3 : (mvA b x).to_.1 = x.to_.1 := rfl
     refine xa 10 ?_
     refine rg_q (q_move (x := .ref _ _) rfl) (rg_q (q_nilCheck_ref rfl) (rg_q (q_fieldAddr_ref fld48_2 rfl) (rg_q (q_fieldAddr_ref fld46_0 rfl) ?_)))
     refine rg_q (q_load_row sz3 rfl rfl (i := k) (j := 3) (by rw [Int.toNat_natCast]) (by rw [List.getElem?_set_self (by omega)]) rfl) ?_
     refine rg_q (q_m rfl) ?_
     refine rg_q (q_add rfl rfl xi) ?_
     refine rg_q (q_nilCheck_ref rfl) (rg_q (q_fieldAddr_ref fld48_2 rfl) (rg_q (q_fieldAddr_ref fld46_0 rfl) ?_))
     refine rg_nil ?_
     refine aops_store_row sz3 rfl rfl (by exact .inl rfl) rfl rfl (i := k) (j := 3) (es' := (mvL b s.fl (k + 1)).map flwC) (by rw [Int.toNat_natCast]) (by rw [List.getElem?_set_self (by omega)]) (by decide) (by rw [List.set_set]; exact mv_row hx (mvT_eq hk1)) ?_
     refine aops_nil (xq (xa 16 ?_))
     refine rg_q (q_move (x := .ref _ _) rfl) (rg_q (q_nilCheck_ref rfl) (rg_q (q_fieldAddr_ref fld48_1 rfl) (rg_q (q_fieldAddr_ref fld46_0 rfl) ?_)))
     refine rg_q (q_load_row sz3 rfl rfl (i := k) (j := 1) (by rw [Int.toNat_natCast]) hrow2 rfl) ?_
     refine rg_q (q_call en43 (.cons rfl (.cons rfl .nil)) rfl (bsmall_p _ _ (by omega) (by omega))) ?_
     refine rg_q (q_not rfl) (rg_q (q_m rfl) ?_)
     refine rg_g rfl rfl (fun hG => (q_move (x := .ref _ _) rfl)) ?_
     refine rg_g rfl rfl (fun hG => (q_nilCheck_ref rfl)) ?_
     refine rg_g rfl rfl (fun hG => (q_fieldAddr_ref fld48_2 rfl)) ?_
     refine rg_g rfl rfl (fun hG => (q_fieldAddr_ref fld46_0 rfl)) ?_
     refine rg_g rfl rfl (fun hG => (q_load_row sz3 rfl rfl (i := k) (j := 3) (by rw [Int.toNat_natCast]) hrow2 rfl)) ?_
     refine rg_g rfl rfl (fun hG => (q_call en43 (.cons rfl (.cons rfl .nil)) rfl (bsmall_p _ _ (by omega) (by omega)))) ?_
     refine rg_g rfl rfl (fun hG => (q_not rfl)) ?_
     refine rg_pick rfl rfl rfl rfl rfl rfl ?_
     refine xc (awp_cond rfl (fun hc11 => ?_) (fun hc11 => ?_))
     ·
      unfold mvB at hb3
      simp only [Bool.and_eq_true] at hb3
      simp [hb3.1, hb3.2] at hc11
     ·
      (try simp only [nb, ne_eq] at hc11)
      refine awp_skip ?_
      change Awp _ _ _ _ _
      refine xa 2 ?_
      refine rg_q (q_add rfl rfl xi) ?_
      refine rg_q (q_m rfl) ?_
      refine rn ?_
      refine ⟨k + 1, by omega, by omega, ?_⟩
      exact xh (ms := [2, 13]) (by repeat (first | exact Out.head rfl rfl | (refine Out.put ?_ rfl) | (refine Out.site ?_ rfl))) ⟨(by rfl), trivial⟩ ⟨(by rfl), (by rfl), trivial⟩
    ·
     (try simp only [nb, ne_eq] at hc9)
     have hk1 : ¬ x.kd = 1 := hc9
     rw [mv_row hx (mvA_eq hk1)]
     refine awp_skip ?_
     change Awp _ _ _ _ _
     refine awp_seq ?_
     refine xa 16 ?_
     refine rg_q (q_move (x := .ref _ _) rfl) (rg_q (q_nilCheck_ref rfl) (rg_q (q_fieldAddr_ref fld48_1 rfl) (rg_q (q_fieldAddr_ref fld46_0 rfl) ?_)))
     refine rg_q (q_load_row sz3 rfl rfl (i := k) (j := 1) (by rw [Int.toNat_natCast]) hrow2 rfl) ?_
     refine rg_q (q_call en43 (.cons rfl (.cons rfl .nil)) rfl (bsmall_p _ _ (by omega) (by omega))) ?_
     refine rg_q (q_not rfl) (rg_q (q_m rfl) ?_)
     refine rg_g rfl rfl (fun hG => (q_move (x := .ref _ _) rfl)) ?_
     refine rg_g rfl rfl (fun hG => (q_nilCheck_ref rfl)) ?_
     refine rg_g rfl rfl (fun hG => (q_fieldAddr_ref fld48_2 rfl)) ?_
     refine rg_g rfl rfl (fun hG => (q_fieldAddr_ref fld46_0 rfl)) ?_
     refine rg_g rfl rfl (fun hG => (q_load_row sz3 rfl rfl (i := k) (j := 3) (by rw [Int.toNat_natCast]) hrow2 rfl)) ?_
     refine rg_g rfl rfl (fun hG => (q_call en43 (.cons rfl (.cons rfl .nil)) rfl (bsmall_p _ _ (by omega) (by omega)))) ?_
     refine rg_g rfl rfl (fun hG => (q_not rfl)) ?_
     refine rg_pick rfl rfl rfl rfl rfl rfl ?_
     refine xc (awp_cond rfl (fun hc11 => ?_) (fun hc11 => ?_))
     ·
      unfold mvB at hb3
      simp only [Bool.and_eq_true] at hb3
      simp [hb3.1, hb3.2] at hc11
     ·
      (try simp only [nb, ne_eq] at hc11)
      refine awp_skip ?_
      change Awp _ _ _ _ _
      refine xa 2 ?_
      refine rg_q (q_add rfl rfl xi) ?_
      refine rg_q (q_m rfl) ?_
      refine rn ?_
      refine ⟨k + 1, by omega, by omega, ?_⟩
      exact xh (ms := [2, 13]) (by repeat (first | exact Out.head rfl rfl | (refine Out.put ?_ rfl) | (refine Out.site ?_ rfl))) ⟨(by rfl), trivial⟩ ⟨(by rfl), (by rfl), trivial⟩
   ·
    (try simp only [nb, ne_eq] at hc5)
    have hkn : k = s.fl.length := by omega
    subst hkn
    rw [mvL_all]
    refine awp_exit ?_
    change Awp _ _ _ _ _
    refine awp_seq ?_
    refine Awp.le (le_freezeTB 2 13 12 rfl rfl rfl rfl hmine) ?_
    refine xa 1 ?_
    refine rg_q (q_load_ag (u := []) (v := (spcT (mvS s b) ++ [D.sl 8 ((mvS s b).fl.map flwC)])) sz40 rfl rfl rfl rfl) ?_
    refine rg_nil ?_
    refine aops_le (le_tbox (k := 4) (ts := [_, _, _, _, _, _, _, _, _, _, _, _, _]) rfl rfl) ?_
    refine aops_storeAg sz40 rfl rfl rfl rfl rfl rfl rfl ?_
    refine aops_q rfl (q_a rfl) ?_
    refine aops_nil ?_
    change Awp _ _ _ _ _
    refine awp_ret ?_
    exact endv_mk (.inl rfl) [14] ⟨4, 14, 13, [], (spcT (mvS s b) ++ [D.sl 8 ((mvS s b).fl.map flwC)]), .v (.int .i64 0), rfl, rfl, sz40, rfl, rfl, rfl⟩ (by repeat (first | exact trivial | refine ⟨rfl, ?_⟩)) rfl
theorem movedEN_p (s : Spc) (hl : s.ar.el.length ≤ 1000) (h2 : s.pl.length ≤ 1000) (h3 : s.fl.length ≤ 1000) (he : 0 < s.ar.el.length) (hp : 0 < s.pl.length) (b : Int) (hbb : inR (-100000) b 100000 = true) (hal : s.fl.all (mvB b) = true) (hn : s.fl.length = 0) : PCS Try.prog 51 [.d (.agg (spcC s)), .d (.v (.int .i64 (b)))] [] (T.tag 0 [] (spcT (mvS s b) ++ [D.sl 8 ((mvS s b).fl.map flwC)]) (.v (.int .i64 0))) [.row 46 2 (s.ar.el.map shC)] := by
 have hml : (s.fl.map flwC).length = s.fl.length := List.length_map _
 have hb2 : -100000 ≤ b ∧ b ≤ 100000 := by simpa [inR] using hbb
 have hS : mvS s b = s := by unfold mvS; rw [List.length_eq_zero_iff.1 hn]; have e := List.length_eq_zero_iff.1 hn; cases s; simp only at e; subst e; rfl
 rw [hS]
 refine pcs_of_awpV Try.func51 rfl Try.ntmps51 Try.results51 (by simp) rfl fun w0 hmine hrnd hpn => ?_
 refine awp_seq ?_
 refine xa 0 ?_
 refine rg_nil ?_
 refine aops_box rfl (by exact .inr ⟨_, rfl⟩) rfl rfl rfl ?_
 refine aops_alloc zr40 rfl rfl rfl ?_
 refine aops_q rfl (q_a rfl) ?_
 refine aops_nil (xq (awp_seq ?_))
 refine xa 3 ?_
 refine rg_q (q_m rfl) ?_
 refine rg_q (q_call en43 (.cons rfl (.cons rfl .nil)) rfl (bsmall_p _ _ (by omega) (by omega))) ?_
 refine rg_q (q_not rfl) ?_
 refine xc (awp_cond rfl (fun hc1 => ?_) (fun hc1 => ?_))
 ·
  simp [hbb] at hc1
 ·
  (try simp only [nb, ne_eq] at hc1)
  refine awp_skip ?_
  change Awp _ _ _ _ _
  refine awp_seq ?_
  refine xa 1 ?_
  refine rg_q (q_load_refA sz40 rfl rfl rfl rfl) ?_
  refine rg_nil ?_
  refine aops_callL [14] [] en75 (copiedE_p s hl h2 h3 he hp hn) (.cons rfl .nil) rfl rfl rfl (by repeat (exact trivial)) (by repeat (first | exact trivial | refine ⟨rfl, ?_⟩)) rfl ?_
  refine aops_le (le_tbox (k := 2) (ts := [_, _, _, _, _, _, _, _, _, _, _, _, _]) rfl rfl) ?_
  refine aops_storeAg sz40 rfl rfl rfl rfl rfl rfl rfl ?_
  refine aops_nil (xq (awp_seq ?_))
  refine xa 4 ?_
  refine rg_q (q_fieldAddr_ref fld40_2 rfl) ?_
  refine rg_q (q_load_tb (x := .d _) sz38 rfl rfl rfl) ?_
  refine rg_q (q_len isl38 rfl (by exact len_map _ _)) ?_
  refine rg_q (q_m rfl) ?_
  refine xc (awp_len (t := 15) rfl (fun hl15 => ?_))
  (try simp only [List.length_map] at hl15)
  refine awp_block ?_
  refine awp_loopH [5, 6, 7, 17, 18, 19, 20, 21, 22, 23, 24, 25, 26, 27, 28, 29, 30, 31, 32, 33, 34, 35, 36, 37, 38, 39, 40, 41, 42, 43, 44, 45, 46, 47, 48, 49, 50, 51, 52, 53, 54, 55, 56, 57, 58, 59, 60, 61, 62, 63, 64, 65, 66] [] (α := Nat) (fun k => [(17, T.i (k : Int))]) (fun k => []) (fun k => k = 0) (fun k => 0) 0 rfl ?_ ?_
  · exact xh (ms := []) (by repeat (exact Out.refl _)) ⟨(by rfl), trivial⟩ trivial
  ·
   intro k hk
   subst hk
   refine awp_seq ?_
   refine xa 1 ?_
   refine rg_q (q_lss rfl rfl) ?_
   refine rs (awp_cond rfl (fun hc5 => ?_) (fun hc5 => ?_))
   ·
    exact absurd (of_decide_eq_true hc5) (by omega)
   ·
    (try simp only [nb, ne_eq] at hc5)
    refine awp_exit ?_
    change Awp _ _ _ _ _
    refine awp_seq ?_
    refine xa 1 ?_
    refine rg_q (q_load_ag (u := []) (v := (spcT (s) ++ [D.sl 8 ((s).fl.map flwC)])) sz40 rfl rfl rfl rfl) ?_
    refine rg_nil ?_
    refine aops_le (le_tbox (k := 4) (ts := [_, _, _, _, _, _, _, _, _, _, _, _, _]) rfl rfl) ?_
    refine aops_storeAg sz40 rfl rfl rfl rfl rfl rfl rfl ?_
    refine aops_q rfl (q_a rfl) ?_
    refine aops_nil ?_
    change Awp _ _ _ _ _
    refine awp_ret ?_
    exact endv_mk (.inl rfl) [14] ⟨4, 14, 13, [], (spcT (s) ++ [D.sl 8 ((s).fl.map flwC)]), .v (.int .i64 0), rfl, rfl, sz40, rfl, rfl, rfl⟩ (by repeat (first | exact trivial | refine ⟨rfl, ?_⟩)) rfl

theorem movedE0_p (s : Spc) (hl : s.ar.el.length ≤ 1000) (h2 : s.pl.length ≤ 1000) (h3 : s.fl.length ≤ 1000) (he : 0 < s.ar.el.length) (hp : 0 < s.pl.length) (b : Int) (hbb : inR (-100000) b 100000 = true) (hal : s.fl.all (mvB b) = true) (hfl : ∀ x ∈ s.fl, FlwOk x) : PCS Try.prog 51 [.d (.agg (spcC s)), .d (.v (.int .i64 (b)))] [] (T.tag 0 [] (spcT (mvS s b) ++ [D.sl 8 ((mvS s b).fl.map flwC)]) (.v (.int .i64 0))) [.row 46 2 (s.ar.el.map shC)] := by
  by_cases h0 : s.fl.length = 0
  · exact movedEN_p s hl h2 h3 he hp b hbb hal h0
  · exact movedE_p s hl h2 h3 he hp b hbb hal (by omega) hfl
theorem movedT_p (s : Spc) (b : Int) (h0 : (ckSpc s).2 = 0) (hbb : inR (-100000) b 100000 = true) (hal : s.fl.all (mvB b) = true) : PCS Try.prog 21 [.d (.agg (spcC s)), .d (.v (.int .i64 (b)))] [] (T.tag 0 [] (spcT (mvS s b) ++ [D.sl 8 ((mvS s b).fl.map flwC)]) (.v (.int .i64 0))) [.row 46 2 (s.ar.el.map shC)] := by
 have hsp := spc_ok h0
 have hok := hsp.ar
 have hn1 := hok.n1
 have hn2 := hok.n2
 have hp1 := hsp.p1
 have hp0 := (plsE_ok (spc_pulse h0)).1
 have hf1 := hsp.f1
 refine pcs_of_awpV Try.func21 rfl Try.ntmps21 Try.results21 (by simp) rfl fun w0 hmine hrnd hpn => ?_
 refine awp_seq ?_
 refine xa 1 ?_
 refine rg_q (q_box rfl (by exact .inr ⟨_, rfl⟩)) ?_
 refine rg_nil ?_
 refine aops_alloc zr40 rfl rfl rfl ?_
 refine aops_q rfl (q_a rfl) ?_
 refine aops_nil (xq (awp_seq ?_))
 refine xa 7 ?_
 refine rg_q (q_loadA sz40 rfl rfl rfl) ?_
 refine rg_q (q_call en50 (.cons rfl .nil) rfl (checkSpecimen_p _)) ?_
 refine rg_q (q_move (x := .d (.tup _)) rfl) (rg_q (q_extract rfl rfl) (rg_q (q_extract rfl rfl) (rg_q (q_a rfl) (rg_q (q_a rfl) ?_))))
 refine rs (xa 2 ?_)
 refine rg_q (q_m rfl) (rg_q (q_neq rfl rfl) ?_)
 refine xc (awp_cond rfl (fun hc2 => ?_) (fun hc2 => ?_))
 ·
  simp [h0] at hc2
 ·
  (try simp only [nb, ne_eq] at hc2)
  refine awp_skip ?_
  change Awp _ _ _ _ _
  refine awp_seq ?_
  refine xa 2 ?_
  refine rg_q (q_loadA sz40 rfl rfl rfl) ?_
  refine rg_q (q_m rfl) ?_
  refine rg_nil ?_
  refine aops_callL [19] [] en51 (movedE0_p s (by omega) (by omega) (by omega) (by omega) (by omega) b hbb hal hsp.fl) (.cons rfl (.cons rfl .nil)) rfl rfl rfl (by repeat (exact trivial)) (by repeat (first | exact trivial | refine ⟨rfl, ?_⟩)) rfl ?_
  refine aops_q rfl (q_extract_tag0 rfl) ?_
  refine aops_q rfl (q_extract_tag1 rfl) ?_
  refine aops_le (le_tbox (k := 4) (ts := [_, _, _, _, _, _, _, _, _, _, _, _, _]) rfl rfl) ?_
  refine aops_storeAg sz40 rfl rfl rfl rfl rfl rfl rfl ?_
  refine aops_q rfl (q_a rfl) ?_
  refine aops_nil ?_
  change Awp _ _ _ _ _
  refine awp_ret ?_
  exact endv_mk (.inl rfl) [19] ⟨4, 19, 13, [], (spcT (mvS s b) ++ [D.sl 8 ((mvS s b).fl.map flwC)]), .v (.int .i64 0), rfl, rfl, sz40, rfl, rfl, rfl⟩ (by repeat (first | exact trivial | refine ⟨rfl, ?_⟩)) rfl
open Go

theorem inR_ad {l h a : Int} : inR l a h = true ↔ l ≤ a ∧ a ≤ h := by unfold inR; simp
theorem tcR_tr {s : Spc} {pr : Int × Int} (h1 : (ckSpc s).2 = 0) (h2 : pairE s.ar.el.length pr = 0) : tcR s pr = trcR s (ptsS s) pr := by
  unfold tcR; rw [if_neg (fun q => q h1), if_neg (fun q => q h2)]
def trO (s : Spc) (pr : Int × Int) : List Nat := if (ckSpc s).2 ≠ 0 ∨ pairE s.ar.el.length pr ≠ 0 ∨ (smT s.ar s.pl pr (ptsS s) (ptsS s).length).any bigB = true then List.replicate 64 0 else (smT s.ar s.pl pr (ptsS s) (ptsS s).length).map FloatKind.f32.nearest
theorem trO_len (s : Spc) (pr : Int × Int) : (trO s pr).length = 64 := by
  unfold trO
  split
  · rfl
  · rw [List.length_map, smT_len]
theorem tcO_bits (s : Spc) (pr : Int × Int) : (tcR s pr).1 = (trO s pr).map fd := by
  unfold tcR trO
  by_cases h1 : (ckSpc s).2 ≠ 0
  · rw [if_pos h1, if_pos (.inl h1)]; rfl
  · rw [if_neg h1]
    by_cases h2 : pairE s.ar.el.length pr ≠ 0
    · rw [if_pos h2, if_pos (.inr (.inl h2))]; rfl
    · rw [if_neg h2]
      unfold trcR
      by_cases h3 : (smT s.ar s.pl pr (ptsS s) (ptsS s).length).any bigB = true
      · rw [if_pos h3, if_pos (.inr (.inr h3))]; rfl
      · rw [if_neg h3, if_neg (fun q => q.elim h1 fun q => q.elim h2 h3), List.map_map]; rfl
def shP (b : Int) (p : Int × Int) : Int × Int := (p.1 + b, p.2)
def shA (a : Arr) (b : Int) : Arr := ⟨a.el.map (shP b), a.ou, a.ba, a.ts⟩
def shS (s : Spc) (b : Int) : Spc := ⟨shA s.ar b, s.pl, s.fl.map (mvF b)⟩
def shX (x : Crs) (b : Int) : Crs := ⟨x.x1 + b, x.h1, x.v1, x.x2 + b, x.h2, x.v2⟩
theorem lo_sh (x : Crs) (b : Int) : loX (shX x b) = loX x + b := by unfold loX shX; simp only; omega
theorem hi_sh (x : Crs) (b : Int) : hiX (shX x b) = hiX x + b := by unfold hiX shX; simp only; omega
theorem slope_sh (x : Crs) (b n : Int) : slopeI (shX x b) (n + b) = slopeI x n := by
  have e1 : n + b - (x.x1 + b) = n - x.x1 := by omega
  have e2 : x.x2 + b - (n + b) = x.x2 - n := by omega
  have h1 : oneI (shX x b) (n + b) = oneI x n := by unfold oneI shX; simp only [e1, e2]
  have h2 : twoI (shX x b) (n + b) = twoI x n := by unfold twoI shX; simp only [e1, e2]
  unfold slopeI
  rw [h1, h2]
  by_cases h : x.x2 < x.x1
  · rw [if_pos h, if_pos (show (shX x b).x2 < (shX x b).x1 by show x.x2 + b < x.x1 + b; omega)]
  · rw [if_neg h, if_neg (show ¬ (shX x b).x2 < (shX x b).x1 by show ¬ x.x2 + b < x.x1 + b; omega)]
theorem time_sh (x : Crs) (b n : Int) : timeAtI (shX x b) (n + b) = timeAtI x n := by
  have e1 : n + b - (x.x1 + b) = n - x.x1 := by omega
  have e2 : x.x2 + b - (n + b) = x.x2 - n := by omega
  unfold timeAtI shX
  simp only [e1, e2]
theorem cross_sh (x : Crs) (b : Int) : crossI (shX x b) = crossI x + b := by
  unfold crossI
  rw [lo_sh, hi_sh, show (fun n => decide (0 < slopeI (shX x b) (loX x + b + n))) = fun n => decide (0 < slopeI x (loX x + n)) from funext fun n => by rw [show loX x + b + n = loX x + n + b by omega, slope_sh], show hiX x + b - (loX x + b) + 1 = hiX x - loX x + 1 by omega]
  omega
theorem least0_sh (x : Crs) (b : Int) : least0 (shX x b) = least0 x := by
  have hi : inR (loX x + b) (crossI x + b + 1) (hiX x + b) = inR (loX x) (crossI x + 1) (hiX x) := by
    rw [Bool.eq_iff_iff, inR_ad, inR_ad]; omega
  unfold least0
  rw [cross_sh, lo_sh, hi_sh, hi, show crossI x + b + 1 = crossI x + 1 + b by omega, time_sh, time_sh]
theorem leastI_sh (x : Crs) (b : Int) : leastI (shX x b) = leastI x := by
  unfold leastI
  rw [least0_sh]; rfl
theorem lt_sh (m : Md) {a t : Int × Int} {b : Int} (ha : spotE a = 0) (hb : spotE (shP b a) = 0) (ht : spotE t = 0) (hu : spotE (shP b t) = 0) : ltI m (shP b a) (shP b t) = ltI m a t := by
  have hw : wayE m (shP b a) (shP b t) = wayE m a t := by unfold wayE; rw [ha, hb, ht, hu]; rfl
  have ho : (opnI m (shP b a) (shP b t)).2 = (opnI m a t).2 ∧ ((opnI m a t).2 = 0 → (opnI m (shP b a) (shP b t)).1 = shX (opnI m a t).1 b) := by
    unfold opnI
    by_cases h1 : modeE m ≠ 0
    · rw [if_pos h1, if_pos h1]; exact ⟨rfl, fun q => absurd q h1⟩
    · rw [if_neg h1, if_neg h1]
      unfold wayI
      rw [hw]
      by_cases h2 : wayE m a t ≠ 0
      · rw [if_pos h2, if_pos h2]; exact ⟨rfl, fun q => absurd q h2⟩
      · rw [if_neg h2, if_neg h2]
        have e3 : (shP b t).2 = t.2 := rfl
        rw [e3]
        by_cases h3 : 100000 < unfI m t.2
        · simp only [if_pos h3]; exact ⟨trivial, fun q => absurd q (by decide)⟩
        · simp only [if_neg h3]; exact ⟨trivial, fun _ => rfl⟩
  unfold ltI
  rw [ho.1]
  by_cases h : (opnI m a t).2 ≠ 0
  · rw [if_pos h, if_pos h]
  · rw [if_neg h, if_neg h, ho.2 (Decidable.not_not.1 h), leastI_sh]
theorem el_sh {a : Arr} {b : Int} {i : Int} (h1 : 0 ≤ i) (h2 : i < a.el.length) : elAt (shA a b) i = shP b (elAt a i) := by
  unfold elAt shA
  simp only [List.getD_eq_getElem?_getD, List.getElem?_map]
  rw [List.getElem?_eq_getElem (by omega)]; rfl
theorem el_spot {a : Arr} (hok : ArrOk a) {i : Int} (h1 : 0 ≤ i) (h2 : i < a.el.length) : spotE (elAt a i) = 0 := by
  have := hok.el _ (List.mem_of_getElem? (el_at h1 h2))
  exact spot_ok.2 (by omega)
theorem smp_sh {a : Arr} {b : Int} (hok : ArrOk a) (hok2 : ArrOk (shA a b)) {t p : Int × Int} (hpk : (0 ≤ p.1 ∧ p.1 < a.el.length) ∧ 0 ≤ p.2 ∧ p.2 < a.el.length) (ht : spotE t = 0) (hu : spotE (shP b t) = 0) : smpI (shA a b) (shP b t) p = smpI a t p := by
  obtain ⟨⟨p1, p2⟩, p3, p4⟩ := hpk
  have hl : (shA a b).el.length = a.el.length := List.length_map _
  have e1 := el_sh (b := b) p1 p2
  have e2 := el_sh (b := b) p3 p4
  have s1 := el_spot hok p1 p2
  have s2 := el_spot hok p3 p4
  have s3 := el_spot hok2 p1 (by rw [hl]; exact p2)
  have s4 := el_spot hok2 p3 (by rw [hl]; exact p4)
  rw [e1] at s3
  rw [e2] at s4
  have q1 := lt_sh a.ou s1 s3 ht hu
  have q2 := lt_sh a.ba s2 s4 ht hu
  have r1 : rtI (shA a b).ou (elAt (shA a b) p.1) (shP b t) = rtI a.ou (elAt a p.1) t := by unfold rtI; rw [e1]; show ((ltI a.ou _ _).1.1 + (ltI a.ou _ _).1.2) / 2 = _; rw [q1]
  have r2 : rtI (shA a b).ba (elAt (shA a b) p.2) (shP b t) = rtI a.ba (elAt a p.2) t := by unfold rtI; rw [e2]; show ((ltI a.ba _ _).1.1 + (ltI a.ba _ _).1.2) / 2 = _; rw [q2]
  unfold smpI echI
  rw [r1, r2]; rfl
def shQ (b : Int) (q : (Int × Int) × Int) : (Int × Int) × Int := (shP b q.1, q.2)
theorem rnd_add {m n b : Int} (h : 1 ≤ n) : rndI (m + b * n) n = rndI m n + b := by
  unfold rndI
  rw [show 2 * (m + b * n) + n = 2 * m + n + b * (2 * n) by grind, Int.add_mul_ediv_right _ _ (by omega)]
theorem betw_sh {n u v k b : Int} (h : 1 ≤ n) : betw n (u + b) (v + b) k = betw n u v k + b := by
  unfold betw
  rw [show (u + b) * (n - k) + (v + b) * k = u * (n - k) + v * k + b * n by grind, rnd_add h]
theorem ptsL_sh {x : Flw} (hx : FlwOk x) (b : Int) : ptsL (mvF b x) = (ptsL x).map (shQ b) := by
  unfold ptsL
  by_cases h : x.kd = 0
  · rw [if_pos h, if_pos (show (mvF b x).kd = 0 from h)]; rfl
  · have hk := hx.kd
    have hp := (hx.pl h).2.2.1
    rw [if_neg h, if_neg (show ¬ (mvF b x).kd = 0 from h)]
    unfold ptsTo
    rw [List.map_map]
    refine List.map_congr_left fun i _ => ?_
    show ptK (mvF b x) i = shQ b (ptK x i)
    have e : (mvF b x).to_ = (x.to_.1 + b, x.to_.2) := by unfold mvF; rw [if_pos (by omega)]
    unfold ptK
    rw [e]
    show ((betw x.pc (x.at_.1 + b) (x.to_.1 + b) i, _), _) = _
    rw [betw_sh hp.1]; rfl
theorem ptsS_sh {s : Spc} (h : ∀ x ∈ s.fl, FlwOk x) (b : Int) : ptsS (shS s b) = (ptsS s).map (shQ b) := by
  have key : ∀ l : List Flw, (∀ x ∈ l, FlwOk x) → (l.map (mvF b)).flatMap ptsL = (l.flatMap ptsL).map (shQ b) := by
    intro l
    induction l with
    | nil => intro _; rfl
    | cons x l ih =>
      intro hl
      rw [List.map_cons, List.flatMap_cons, List.flatMap_cons, List.map_append, ih (fun y hy => hl y (by simp [hy])), ptsL_sh (hl x (by simp))]
  exact key s.fl h
theorem smT_sh {a : Arr} {b : Int} (hok : ArrOk a) (hok2 : ArrOk (shA a b)) {pl : List Int} {p : Int × Int} (hpk : (0 ≤ p.1 ∧ p.1 < a.el.length) ∧ 0 ≤ p.2 ∧ p.2 < a.el.length) {P : List ((Int × Int) × Int)} (hP : ∀ q ∈ P, spotE q.1 = 0 ∧ spotE (shP b q.1) = 0) :
    ∀ k, k ≤ P.length → smT (shA a b) pl p (P.map (shQ b)) k = smT a pl p P k
  | 0, _ => rfl
  | k + 1, hk => by
    have ih := smT_sh hok hok2 (pl := pl) hpk hP k (by omega)
    have hq : P[k]? = some (ptA P k) := by unfold ptA; rw [List.getD_eq_getElem?_getD, List.getElem?_eq_getElem (by omega)]; rfl
    have e : ptA (P.map (shQ b)) k = shQ b (ptA P k) := by unfold ptA at hq ⊢; rw [List.getD_eq_getElem?_getD, List.getElem?_map, hq]; rfl
    obtain ⟨h1, h2⟩ := hP _ (List.mem_of_getElem? hq)
    show adT (smT (shA a b) pl p (P.map (shQ b)) k) pl (ptA (P.map (shQ b)) k).2 (smpI (shA a b) (ptA (P.map (shQ b)) k).1 p) pl.length = adT (smT a pl p P k) pl (ptA P k).2 (smpI a (ptA P k).1 p) pl.length
    rw [ih, e]
    show adT _ pl (ptA P k).2 (smpI (shA a b) (shP b (ptA P k).1) p) pl.length = _
    rw [smp_sh hok hok2 hpk h1 h2]
theorem tcR_sh {s : Spc} {b : Int} {p : Int × Int} (h1 : (ckSpc s).2 = 0) (h2 : (ckSpc (shS s b)).2 = 0) (hp : pairE s.ar.el.length p = 0) : tcR (shS s b) p = tcR s p := by
  have hl : (shS s b).ar.el.length = s.ar.el.length := List.length_map _
  have hS := ptsS_sh (spc_ok h1).fl b
  have hpk := pair_ok hp
  rw [tcR_tr h1 hp, tcR_tr h2 (by rw [hl]; exact hp)]
  unfold trcR
  have hP : ∀ q ∈ ptsS s, spotE q.1 = 0 ∧ spotE (shP b q.1) = 0 := fun q hq => by
    have hq2 : shQ b q ∈ ptsS (shS s b) := by rw [hS]; exact List.mem_map_of_mem hq
    unfold ptsS at hq hq2
    obtain ⟨x, hx, hqx⟩ := List.mem_flatMap.1 hq
    obtain ⟨y, hy, hqy⟩ := List.mem_flatMap.1 hq2
    exact ⟨(spc_pts h1 x hx q hqx).1, (spc_pts h2 y hy _ hqy).1⟩
  have e := smT_sh (spc_ok h1).ar (spc_ok h2).ar (pl := s.pl) hpk hP (ptsS s).length (Nat.le_refl _)
  have e2 : smT (shS s b).ar (shS s b).pl p (ptsS (shS s b)) (ptsS (shS s b)).length = smT s.ar s.pl p (ptsS s) (ptsS s).length := by rw [hS, List.length_map]; exact e
  rw [e2]
def shL (b : Int) (l : List (Int × Int)) (k : Nat) : List (Int × Int) := (l.take k).map (shP b) ++ l.drop k
theorem shL_len (b : Int) (l : List (Int × Int)) (k : Nat) : (shL b l k).length = l.length := by unfold shL; simp; omega
theorem shL_all (b : Int) (l : List (Int × Int)) : shL b l l.length = l.map (shP b) := by unfold shL; simp
theorem shL_at {b : Int} {l : List (Int × Int)} {k : Nat} {x : Int × Int} (hx : l[k]? = some x) : (shL b l k)[k]? = some x := by
  have hk := (List.getElem?_eq_some_iff.1 hx).1
  unfold shL
  rw [List.getElem?_append_right (by simp; omega), List.getElem?_drop, List.length_map, List.length_take, Nat.min_eq_left (by omega), Nat.sub_self, Nat.add_zero]; exact hx
theorem shL_set {b : Int} {l : List (Int × Int)} {k : Nat} {x : Int × Int} (hx : l[k]? = some x) : (shL b l k).set k (shP b x) = shL b l (k + 1) := by
  obtain ⟨hk, hy⟩ := List.getElem?_eq_some_iff.1 hx
  unfold shL
  rw [List.set_append_right _ _ (by simp; omega), List.length_map, List.length_take, Nat.min_eq_left (by omega), Nat.sub_self, List.drop_eq_getElem_cons hk, hy, List.set_cons_zero, List.take_succ_eq_append_getElem hk, hy, List.map_append]
  simp
theorem sh_row {b : Int} {l : List (Int × Int)} {k : Nat} {x : Int × Int} (hx : l[k]? = some x) : ((shL b l k).map shC).set k (shC (shP b x)) = (shL b l (k + 1)).map shC := by rw [← List.map_set, shL_set hx]
def pbB (s : Spc) (a n : Int) : List Nat := (adT zI s.pl a n s.pl.length).map FloatKind.f32.nearest
theorem pbB_fv (s : Spc) (a n : Int) : (adT zI s.pl a n s.pl.length).map fv = (pbB s a n).map fd := by unfold pbB; rw [List.map_map]; rfl
theorem pbB_len (s : Spc) (a n : Int) : (pbB s a n).length = 64 := by unfold pbB; rw [List.length_map, adT_len]; rfl
theorem smp_in12 {a : Arr} (hok : ArrOk a) (t p : Int × Int) : -1000000000000 ≤ smpI a t p ∧ smpI a t p ≤ 1000000000000 := by
  have he := ech_in a t p
  have h1 := hok.t1
  have h2 := hok.t2
  have h3 := hok.t3
  unfold smpI
  exact rnd_btw h3 (by omega) (by omega)
theorem one_smp {s : Spc} {pr : Int × Int} {x : Flw} (h0 : (ckSpc s).2 = 0) (hp : pairE s.ar.el.length pr = 0) (hx : x ∈ s.fl) (hk : x.kd = 0) : smpR s.ar x.at_ pr = (smpI s.ar x.at_ pr, 0) := by
  have hck : (ckArr s.ar).2 = 0 := by
    unfold ckSpc at h0
    by_cases h1 : (ckArr s.ar).2 ≠ 0
    · rw [if_pos h1] at h0; exact absurd h0 h1
    · exact Decidable.not_not.1 h1
  obtain ⟨q1, q2⟩ := spc_pts h0 x hx (x.at_, x.am) (by unfold ptsL; rw [if_pos hk]; simp)
  have ho : opE s.ar x.at_ pr = 0 := by
    unfold opE
    rw [if_neg (fun q => q hck)]
    exact first_zero.2 (by intro y hy; simp only [List.mem_cons, List.not_mem_nil, or_false] at hy; rcases hy with rfl | rfl | rfl; exact q1; exact q2; exact hp)
  unfold smpR
  rw [if_neg (fun q => q ho)]
theorem one_pls {s : Spc} {pr : Int × Int} {x : Flw} (h0 : (ckSpc s).2 = 0) (hx : x ∈ s.fl) : pldR s.pl x.am (smpI s.ar x.at_ pr) = ((pbB s x.am (smpI s.ar x.at_ pr)).map fd, 0) := by
  have hok := spc_ok h0
  have ha := (hok.fl x hx).am
  have hn := smp_in12 hok.ar x.at_ pr
  have hz : pldE s.pl x.am (smpI s.ar x.at_ pr) = 0 := by
    unfold pldE
    refine first_zero.2 fun y hy => ?_
    simp only [List.mem_cons, List.not_mem_nil, or_false] at hy
    rcases hy with rfl | rfl
    · exact spc_pulse h0
    · rw [when_zero (by decide)]
      simp [inR]
      omega
  unfold pldR
  rw [if_neg (fun q => q hz), pbB_fv]
theorem one_trc {s : Spc} {pr : Int × Int} {x : Flw} (h0 : (ckSpc s).2 = 0) (hp : pairE s.ar.el.length pr = 0) (hf : s.fl = [x]) (hk : x.kd = 0) : (tcR s pr).2 = 8 ∨ ((tcR s pr).2 = 0 ∧ trO s pr = pbB s x.am (smpI s.ar x.at_ pr)) := by
  have hP : ptsS s = [(x.at_, x.am)] := by unfold ptsS; rw [hf]; unfold ptsL; simp [hk]
  have hS : smT s.ar s.pl pr (ptsS s) (ptsS s).length = adT zI s.pl x.am (smpI s.ar x.at_ pr) s.pl.length := by rw [hP]; rfl
  rw [tcR_tr h0 hp]
  unfold trcR
  by_cases hb : (smT s.ar s.pl pr (ptsS s) (ptsS s).length).any bigB = true
  · left; rw [if_pos hb]
  · right
    rw [if_neg hb]
    refine ⟨rfl, ?_⟩
    unfold trO
    rw [if_neg (fun q => q.elim (fun q => q h0) fun q => q.elim (fun q => q hp) hb), hS]; rfl
end Go.Proofs.Ytamaocfjknpadaa.Am.M
