/- Contracts over the abstract machine, joined. Conditions: none. -/
import Derived.Test.YtkbdnkjjklbddaaGreatDoorJ2
set_option linter.unusedVariables false
set_option linter.unusedSimpArgs false
-- mini
set_option maxRecDepth 100000
namespace Go.Proofs.YtkbdnkjjklbddaaGreatDoor.Am.M
open Go

def opnS (s : Spc) (P : List ((Int × Int) × Int)) : List D := arrC s.ar ++ [.sl 1 (s.pl.map iC), .sl 3 (P.map ptnC)]
def ptA (P : List ((Int × Int) × Int)) (k : Nat) : (Int × Int) × Int := P.getD k ((0, 0), 0)
def smT (a : Arr) (pl : List Int) (pr : Int × Int) (P : List ((Int × Int) × Int)) : Nat → List Int
  | 0 => zI
  | k + 1 => adT (smT a pl pr P k) pl (ptA P k).2 (smpI a (ptA P k).1 pr) pl.length
theorem smT_len {a : Arr} {pl : List Int} {pr : Int × Int} {P : List ((Int × Int) × Int)} : ∀ k : Nat, (smT a pl pr P k).length = 64
  | 0 => rfl
  | k + 1 => by show (adT _ _ _ _ _).length = 64; rw [adT_len]; exact smT_len k
theorem amp_mul {pl : List Int} {x : Int} (hx : -1000 ≤ x ∧ x ≤ 1000) (hp : ∀ n ∈ pl, -100 ≤ n ∧ n ≤ 100) : ∀ n ∈ pl, -100000 ≤ x * n ∧ x * n ≤ 100000 := by
  intro n hn
  have h := hp n hn
  have := mulb (a := x) (b := n) (A := 1000) (B := 100) (by omega) (by omega) (by omega) (by omega)
  omega
theorem ptA_in {P : List ((Int × Int) × Int)} (h : ∀ q ∈ P, -1000 ≤ q.2 ∧ q.2 ≤ 1000) (k : Nat) : -1000 ≤ (ptA P k).2 ∧ (ptA P k).2 ≤ 1000 := by
  unfold ptA
  rw [List.getD_eq_getElem?_getD]
  cases hx : P[k]? with
  | none => exact ⟨by decide, by decide⟩
  | some q => exact h q (List.mem_of_getElem? hx)
theorem smT_in {a : Arr} {pl : List Int} {pr : Int × Int} {P : List ((Int × Int) × Int)} (hl : pl.length ≤ 16) (hp : ∀ n ∈ pl, -100 ≤ n ∧ n ≤ 100) (hP : ∀ q ∈ P, -1000 ≤ q.2 ∧ q.2 ≤ 1000) : ∀ k : Nat, ∀ v ∈ smT a pl pr P k, -(1600000 * (k : Int)) ≤ v ∧ v ≤ 1600000 * (k : Int)
  | 0, v, hv => by rw [List.eq_of_mem_replicate hv]; omega
  | k + 1, v, hv => by
    have ih := smT_in (a := a) (pr := pr) hl hp hP k
    have := adT_in (t := smpI a (ptA P k).1 pr) ih (amp_mul (ptA_in hP k) hp) pl.length v hv
    omega
theorem rnd_in {n b A : Int} (hA : 0 ≤ A) (h1 : -A ≤ n) (h2 : n ≤ A) (hb : 1 ≤ b) : -(A + 1) ≤ rndI n b ∧ rndI n b ≤ A + 1 := by
  unfold rndI
  have hm : A ≤ A * b := by
    have := Int.mul_le_mul_of_nonneg_left hb hA
    rw [Int.mul_one] at this; exact this
  have e1 : (A + 1) * (2 * b) = 2 * (A * b) + 2 * b := by grind
  have e2 : -(A + 1) * (2 * b) = -(2 * (A * b) + 2 * b) := by grind
  refine ⟨Int.le_ediv_of_mul_le (by omega) (by rw [e2]; omega), ?_⟩
  have : (2 * n + b) / (2 * b) < A + 1 + 1 := Int.ediv_lt_of_lt_mul (by omega) (by
    have e3 : (A + 1 + 1) * (2 * b) = 2 * (A * b) + 4 * b := by grind
    rw [e3]; omega)
  omega
theorem smp_in {a : Arr} (hok : ArrOk a) (t p : Int × Int) : -10000000000000 ≤ smpI a t p ∧ smpI a t p ≤ 10000000000000 := by
  have he := ech_in a t p
  have h := rnd_in (n := echI a t p - a.ts.1) (b := a.ts.2) (A := 1100000000000) (by decide) (by have := hok.t2; omega) (by have := hok.t1; omega) hok.t3
  unfold smpI; omega
def trcR (s : Spc) (P : List ((Int × Int) × Int)) (pr : Int × Int) : List D × Int := if (smT s.ar s.pl pr P P.length).any bigB = true then (z64, 8) else ((smT s.ar s.pl pr P P.length).map fv, 0)
theorem traceOf_p (s : Spc) (P : List ((Int × Int) × Int)) (pr : Int × Int) (hok : ArrOk s.ar) (hpk : (0 ≤ pr.1 ∧ pr.1 < s.ar.el.length) ∧ 0 ≤ pr.2 ∧ pr.2 < s.ar.el.length) (hpl : s.pl.length ≤ 16) (hpb : ∀ n ∈ s.pl, -100 ≤ n ∧ n ≤ 100) (hP : P.length ≤ 300) (hPa : ∀ q ∈ P, -1000 ≤ q.2 ∧ q.2 ≤ 1000) : PC Tryz.prog 53 [.agg (opnS s P), .agg (shC pr)] (.tup [.agg (trcR s P pr).1, .v (.int .i64 ((trcR s P pr).2))]) := by
 have hfl : ((smT s.ar s.pl pr P P.length).map fv).length = 64 := by rw [List.length_map, smT_len]
 refine pc_of_awpN Tryz.func53 rfl Tryz.ntmps53 (rs := [.cell 4 63, .tmp 5]) Tryz.results53 (by simp) fun w0 hmine hrnd hpn => ?_
 refine awp_seq ?_
 refine xa 2 ?_
 refine rg_q (q_box rfl (by exact .inr ⟨_, rfl⟩)) ?_
 refine rg_q (q_box rfl (by exact .inr ⟨_, rfl⟩)) ?_
 refine rg_nil ?_
 refine aops_alloc zr63 rfl rfl rfl ?_
 refine aops_q rfl (q_a rfl) ?_
 refine aops_nil (xq (xa 0 ?_))
 refine rg_nil ?_
 refine aops_alloc zr162 rfl rfl rfl ?_
 refine aops_nil (xq (awp_seq ?_))
 refine xa 4 ?_
 refine rg_q (q_fieldAddr fld115_2 rfl) (rg_q (q_load sz66 rfl rfl) ?_)
 refine rg_q (q_len isl66 rfl (by exact len_map _ _)) ?_
 refine rg_q (q_m rfl) ?_
 refine xc (awp_len (t := 11) rfl (fun hl11 => ?_))
 (try simp only [List.length_map] at hl11)
 refine awp_block ?_
 refine awp_loopH [8, 13, 14, 15, 16, 17, 18, 19, 20, 21, 22, 23, 24, 25, 26, 27, 28] [6] (α := Nat) (fun k => [(13, T.i (k : Int))]) (fun k => [(6, .box ((smT s.ar s.pl pr P k).map iv))]) (fun k => k ≤ P.length) (fun k => P.length - k) 0 (Nat.zero_le _) ?_ ?_
 · exact xh (ms := [6]) (by repeat (exact Out.refl _)) ⟨(by rfl), trivial⟩ ⟨(by rfl), trivial⟩
 ·
  intro k hk
  refine awp_seq ?_
  refine xa 1 ?_
  refine rg_q (q_lss rfl rfl) ?_
  refine rs (awp_cond rfl (fun hc3 => ?_) (fun hc3 => ?_))
  ·
   (try simp only [nb, ne_eq] at hc3)
   have hlt : k < P.length := by omega
   obtain ⟨y, hx⟩ : ∃ y, P[k]? = some y := ⟨_, List.getElem?_eq_getElem hlt⟩
   have hya := hPa y (List.mem_of_getElem? hx)
   have hpy : ptA P k = y := by unfold ptA; rw [List.getD_eq_getElem?_getD, hx]; rfl
   have hin := smT_in (a := s.ar) (pr := pr) hpl hpb hPa k
   have hst : adT (smT s.ar s.pl pr P k) s.pl y.2 (smpI s.ar y.1 pr) s.pl.length = smT s.ar s.pl pr P (k + 1) := by rw [← hpy]; rfl
   refine awp_skip ?_
   change Awp _ _ _ _ _
   refine awp_seq ?_
   refine awp_block ?_
   refine awp_seq ?_
   refine xa 2 ?_
   refine rg_q (q_indexAddr sl66 rfl rfl (by omega) (map_at (by omega) hx)) ?_
   refine rg_q (q_loadA (ds := [_, _, _]) sz72 rfl rfl rfl) ?_
   refine rg_nil ?_
   refine aops_alloc zr72 rfl rfl rfl ?_
   refine aops_store sz72 rfl rfl (by exact .inr ⟨_, rfl⟩) rfl rfl (by decide) rfl ?_
   refine aops_nil ?_
   change Awp _ _ _ _ _
   refine xa 10 ?_
   refine rg_q (q_fieldAddr fld115_1 rfl) (rg_q (q_load sz29 rfl rfl) (rg_q (q_fieldAddr_ref fld72_1 rfl) (rg_q (q_load_ref sz3 rfl rfl rfl) (rg_q (q_fieldAddr fld115_0 rfl) ?_))))
   refine rg_q (q_loadA (ds := [_, _, _, _, _, _, _, _, _, _, _]) sz110 rfl rfl rfl) ?_
   refine rg_q (q_fieldAddr_ref fld72_0 rfl) ?_
   refine rg_q (q_load_refA (ds := [_, _]) sz37 rfl rfl rfl rfl) ?_
   refine rg_q (q_loadA (ds := [_, _]) sz60 rfl rfl rfl) ?_
   refine rg_q (q_call en85 (.cons rfl (.cons rfl (.cons rfl .nil))) rfl (sample_p s.ar y.1 pr hok hpk)) ?_
   refine rg_nil ?_
   refine aops_callL [6] [] en84 (sampAdd_p (smT s.ar s.pl pr P k) s.pl y.2 (smpI s.ar y.1 pr) (1600000 * (k : Int)) (smT_len _) hin (by omega) (by omega) (amp_mul hya hpb) (smp_in hok _ _)) (.cons rfl (.cons rfl (.cons rfl (.cons rfl .nil)))) rfl rfl rfl (by repeat (first | exact trivial | refine ⟨rfl, ?_⟩)) (by repeat (exact trivial)) rfl ?_
   refine aops_nil ?_
   change Awp _ _ _ _ _
   refine xa 2 ?_
   refine rg_q (q_add rfl rfl xi) ?_
   refine rg_q (q_m rfl) ?_
   refine rn ?_
   refine ⟨k + 1, by omega, by omega, ?_⟩
   exact xh (ms := [6]) (by repeat (first | exact Out.head rfl rfl | (refine Out.put ?_ rfl) | (refine Out.site ?_ rfl) | (refine Out.called ?_ rfl rfl))) ⟨(by rfl), trivial⟩ ⟨(by (show Site.box _ = Site.box _; rw [hst])), trivial⟩
  ·
   (try simp only [nb, ne_eq] at hc3)
   have hkn : k = P.length := by omega
   subst hkn
   refine awp_exit ?_
   change Awp _ _ _ _ _
   refine awp_seq ?_
   refine awp_seq ?_
   refine Awp.le (le_freeze 6 6 0 (cs := (smT s.ar s.pl pr P P.length).map iv) rfl rfl rfl rfl hmine) ?_
   refine xa 2 ?_
   refine rg_q (q_call en86 (.cons rfl .nil) rfl (tooLarge_p (smT s.ar s.pl pr P P.length) (smT_len _))) ?_
   refine rg_q (q_a rfl) ?_
   refine rs (xa 2 ?_)
   refine rg_q (q_m rfl) (rg_q (q_neq rfl rfl) ?_)
   refine xc (awp_cond rfl (fun hc8 => ?_) (fun hc8 => ?_))
   ·
    (try simp only [nb, ne_eq] at hc8)
    have hz : trcR s P pr = (z64, 8) := by
     unfold trcR
     rw [if_pos]
     cases hb : (smT s.ar s.pl pr P P.length).any bigB with
     | true => rfl
     | false => rw [hb] at hc8; exact absurd rfl hc8
    have hw : whenI ((smT s.ar s.pl pr P P.length).any bigB) 8 = 8 := by
     cases hb : (smT s.ar s.pl pr P P.length).any bigB with
     | true => rfl
     | false => rw [hb] at hc8; exact absurd rfl hc8
    refine awp_seq ?_
    refine xa 2 ?_
    refine rg_q (q_buildA ar63 zr63 rfl .nil trivial rfl) ?_
    refine rg_q (q_m rfl) ?_
    refine rg_nil ?_
    refine aops_store sz63 rfl rfl (by exact .inr ⟨_, rfl⟩) rfl rfl (by decide) rfl ?_
    refine aops_q rfl (q_a rfl) ?_
    refine aops_nil ?_
    change Awp _ _ _ _ _
    refine awp_ret ?_
    refine ⟨_, (.cons (.cellA rfl rfl sz63 (by rfl)) xk1), ?_⟩
    rw [hz, hw]; rfl
   ·
    (try simp only [nb, ne_eq] at hc8)
    have hz : trcR s P pr = ((smT s.ar s.pl pr P P.length).map fv, 0) := by
     unfold trcR
     rw [if_neg]
     intro hb
     rw [hb] at hc8
     exact absurd hc8 (by decide)
    refine awp_skip ?_
    change Awp _ _ _ _ _
    refine awp_seq ?_
    refine xa 1 ?_
    refine rg_q (q_call en87 (.cons rfl .nil) rfl (trace_p (smT s.ar s.pl pr P P.length) (smT_len _))) ?_
    refine rg_nil ?_
    refine aops_store (cs' := (smT s.ar s.pl pr P P.length).map fv) sz63 rfl rfl (by exact .inr ⟨_, rfl⟩) hfl rfl (Nat.le_of_ble_eq_true rfl) (setCs_all hfl) ?_
    refine aops_q rfl (q_a rfl) ?_
    refine aops_nil ?_
    change Awp _ _ _ _ _
    refine awp_ret ?_
    refine ⟨_, (.cons (.cellA rfl rfl sz63 (by exact hfl)) xk1), ?_⟩
    rw [hz]; rfl
end Go.Proofs.YtkbdnkjjklbddaaGreatDoor.Am.M
-- mini
set_option maxRecDepth 100000
namespace Go.Proofs.YtkbdnkjjklbddaaGreatDoor.Am.M
open Go

section
variable {P : Program} {w0 : Cx} {ty : TypeId} {pos : String} {after : Array Edge}
def notDead : T → Bool
  | .dead => false
  | _ => true
theorem argsS_live {ev ev' : Operand → T} {f : Nat → Nat} {ys : List Operand} {xs : List T} (h : ArgsS ev f ys xs) (hx : ∀ y, ev y = .dead ∨ ev' y = ev y) (hd : xs.all notDead = true) : ArgsS ev' f ys xs := by
  induction h with
  | nil => exact .nil
  | @cons y ys x xs h _ ih =>
    simp only [List.all_cons, Bool.and_eq_true] at hd
    refine .cons ?_ (ih hd.2)
    rcases hx y with e | e
    · rw [e] at h
      cases x <;> first | (cases h; done) | (have := hd.1; simp [notDead] at this; done)
    · rw [e]; exact h
theorem c_callR {s : St} {ev : Operand → T} {d k e sz : Nat} {es es' : List (List D)} {f : FuncId} {ys : List Operand} {at_ : Array TypeId} {args : List T} (he : enB P f = true) (hr : PCS P f args [.row e sz es] (.rs 0) [.row e sz es'])
    (ha : ArgsS ev (nth [k]) ys args) (hnd : args.all notDead = true) (hk : s.s k = .row e sz es) (hc : callOk [k] args [.row e sz es] (.rs 0) [.row e sz es'] = true) :
    COp P w0 s ev ⟨some d, .call ⟨.value (.func f), ys.toArray, at_⟩, ty, pos, after, none⟩ (.grow k d (.row e sz es')) :=
  fun st hk' hn hev hd => step_of_aops rfl fun ops rest R h => by
    refine aops_callL [k] [k] he hr (argsS_live ha hev hnd) hc rfl rfl ⟨by rw [hk']; exact hk, trivial⟩ trivial (by simp only; rw [Nat.blt_eq, hn]; exact hd d rfl) ?_
    have e1 : afterS st [k] [k] [.row e sz es'] = (st.killS k).site k (.row e sz es') := by
      simp only [afterS, St.killS, St.site, St.mk.injEq, true_and]
      refine funext fun j => ?_
      by_cases hj : j = k
      · subst hj; simp [idxN, getS, shiftS]
      · have : Nat.beq j k = false := by rw [← Bool.not_eq_true]; exact fun e => hj (Nat.eq_of_beq_eq_true e)
        simp [idxN, this]
    rw [e1]
    exact h
end

def ptsF (s : Spc) (k : Nat) : List ((Int × Int) × Int) := (s.fl.take k).flatMap ptsL
def ptsS (s : Spc) : List ((Int × Int) × Int) := s.fl.flatMap ptsL
theorem ptsF_succ {s : Spc} {k : Nat} {y : Flw} (h : s.fl[k]? = some y) : ptsF s (k + 1) = ptsF s k ++ ptsL y := by
  obtain ⟨hlt, hx⟩ := List.getElem?_eq_some_iff.1 h
  unfold ptsF
  rw [List.take_succ_eq_append_getElem hlt, hx, List.flatMap_append]; simp
theorem ptsF_len {s : Spc} (h : ∀ x ∈ s.fl, FlwOk x) : ∀ k : Nat, k ≤ s.fl.length → (ptsF s k).length ≤ 21 * k
  | 0, _ => by unfold ptsF; simp
  | k + 1, hk => by
    have hx : s.fl[k]? = some s.fl[k] := List.getElem?_eq_getElem (by omega)
    have h1 := ptsL_len (h _ (List.mem_of_getElem? hx))
    have h2 := ptsF_len h k (by omega)
    rw [ptsF_succ hx, List.length_append]; omega
theorem ckFls_ok {t : Int} : ∀ {l : List Flw} {i : Nat}, (ckFls t i l).2 = 0 → ∀ x ∈ l, flwE x = 0
  | [], _, _, x, hx => by cases hx
  | y :: l, i, h, x, hx => by
    unfold ckFls at h
    by_cases h1 : flE t y ≠ 0
    · rw [if_pos h1] at h; exact absurd h h1
    · rw [if_neg h1] at h
      rcases List.mem_cons.1 hx with rfl | hx
      · have h2 := Decidable.not_not.1 h1
        unfold flE at h2
        by_cases h3 : firstE [flwE x, plateE x.at_.2 t] = 0
        · rw [first_zero] at h3
          exact h3 _ (by simp)
        · rw [if_neg (fun q => h3 q.1)] at h2; exact absurd h2 h3
      · exact ckFls_ok h x hx
structure SpcOk (s : Spc) : Prop where
  ar : ArrOk s.ar
  p1 : s.pl.length ≤ 16
  p2 : ∀ n ∈ s.pl, -100 ≤ n ∧ n ≤ 100
  f1 : s.fl.length ≤ 10
  fl : ∀ x ∈ s.fl, FlwOk x
theorem spc_ok {s : Spc} (h : (ckSpc s).2 = 0) : SpcOk s := by
  unfold ckSpc at h
  by_cases h1 : (ckArr s.ar).2 ≠ 0
  · rw [if_pos h1] at h; exact absurd h h1
  rw [if_neg h1] at h
  by_cases h2 : spcE0 s ≠ 0
  · rw [if_pos h2] at h; exact absurd h h2
  rw [if_neg h2] at h
  have h3 := Decidable.not_not.1 h2
  unfold spcE0 at h3
  rw [first_zero] at h3
  simp only [List.mem_cons, List.not_mem_nil, or_false, forall_eq_or_imp, forall_eq] at h3
  obtain ⟨_, e5, e6⟩ := plsE_ok h3.1
  have e7 := (when_zero (show (8 : Int) ≠ 0 by decide)).1 h3.2
  refine ⟨(ckArr_ok (Decidable.not_not.1 h1)).1, e5, fun n hn => ?_, ?_, fun x hx => flw_ok (ckFls_ok h x hx)⟩
  · have := pulse_all (a := 1) e6 (by omega) n hn
    have h8 : plsB n = false := by
      cases hb : plsB n with
      | false => rfl
      | true => rw [List.any_eq_true.2 ⟨n, hn, hb⟩] at e6; cases e6
    unfold plsB at h8
    simp [inR] at h8
    omega
  · have := of_decide_eq_false e7
    omega

def z0 : D := .v (.int .i64 0)
def zOp : List D := [.v (.slice none 0 0), z0, z0, z0, z0, z0, z0, z0, z0, z0, z0, .v (.slice none 0 0), .v (.slice none 0 0)]
def osR (s : Spc) : List D × Int := if (ckSpc s).2 ≠ 0 then (zOp, (ckSpc s).2) else (opnS s (ptsS s), 0)
theorem openSpecimen_p (s : Spc) : PC Tryz.prog 50 [.agg (spcC s)] (.tup [.agg (osR s).1, .v (.int .i64 ((osR s).2))]) := by
 refine pc_of_awpN Tryz.func50 rfl Tryz.ntmps50 (rs := [.cell 2 115, .tmp 3]) Tryz.results50 (by simp) fun w0 hmine hrnd hpn => ?_
 refine awp_seq ?_
 refine xa 1 ?_
 refine rg_q (q_box rfl (by exact .inr ⟨_, rfl⟩)) ?_
 refine rg_nil ?_
 refine aops_alloc zr115 rfl rfl rfl ?_
 refine aops_q rfl (q_a rfl) ?_
 refine aops_nil (xq (awp_seq ?_))
 refine xa 7 ?_
 refine rg_q (q_loadA sz32 rfl rfl rfl) ?_
 refine rg_q (q_call en35 (.cons rfl .nil) rfl (checkSpecimen_p _)) ?_
 refine rg_q (q_move (x := .d (.tup _)) rfl) (rg_q (q_extract rfl rfl) (rg_q (q_extract rfl rfl) (rg_q (q_a rfl) (rg_q (q_a rfl) ?_))))
 refine rs (xa 2 ?_)
 refine rg_q (q_m rfl) (rg_q (q_neq rfl rfl) ?_)
 refine xc (awp_cond rfl (fun hc2 => ?_) (fun hc2 => ?_))
 ·
  (try simp only [nb, ne_eq] at hc2)
  have h0 : (ckSpc s).2 ≠ 0 := hc2
  have hz : osR s = (zOp, (ckSpc s).2) := by unfold osR; rw [if_pos h0]
  refine awp_seq ?_
  refine xa 2 ?_
  refine rg_q (q_build pl115 zr115 rfl .nil trivial rfl) ?_
  refine rg_q (q_m rfl) ?_
  refine rg_nil ?_
  refine aops_store sz115 rfl rfl (by exact .inr ⟨_, rfl⟩) rfl rfl (by decide) rfl ?_
  refine aops_q rfl (q_a rfl) ?_
  refine aops_nil ?_
  change Awp _ _ _ _ _
  refine awp_ret ?_
  refine ⟨_, (.cons (.cellA rfl rfl sz115 rfl) xk1), ?_⟩
  rw [hz]; rfl
 ·
  (try simp only [nb, ne_eq] at hc2)
  have h0 : (ckSpc s).2 = 0 := by omega
  have hok := spc_ok h0
  have hf1 := hok.f1
  have hz : osR s = (opnS s (ptsS s), 0) := by unfold osR; rw [if_neg (fun q => q h0)]
  refine awp_skip ?_
  change Awp _ _ _ _ _
  refine awp_seq ?_
  refine xa 6 ?_
  refine rg_q (q_fieldAddr fld32_0 rfl) ?_
  refine rg_q (q_loadA (ds := [_, _, _, _, _, _, _, _, _, _, _]) sz28 rfl rfl rfl) ?_
  refine rg_q (q_build (cs := [_, _, _, _, _, _, _, _, _, _, _]) pl110 zr110 rfl (.cons rfl (by exact .inr ⟨_, rfl⟩) .nil) ⟨⟨rfl, by decide⟩, trivial⟩ rfl) ?_
  refine rg_q (q_fieldAddr fld32_1 rfl) (rg_q (q_load sz29 rfl rfl) ?_)
  refine rg_q (q_build pl115 zr115 rfl (.cons rfl (by exact .inr ⟨_, rfl⟩) (.cons rfl (by exact .inl rfl) .nil)) ⟨⟨rfl, by decide⟩, ⟨rfl, by decide⟩, trivial⟩ rfl) ?_
  refine rg_nil ?_
  refine aops_alloc zr115 rfl rfl rfl ?_
  refine aops_store sz115 rfl rfl (by exact .inr ⟨_, rfl⟩) rfl rfl (by decide) rfl ?_
  refine aops_nil (xq (awp_seq ?_))
  refine Awp.le (le_ownB 6 35 12 72 3 rfl rfl rfl) ?_
  refine xa 4 ?_
  refine rg_q (q_fieldAddr fld32_2 rfl) (rg_q (q_load sz30 rfl rfl) ?_)
  refine rg_q (q_len isl30 rfl (by exact len_map _ _)) ?_
  refine rg_q (q_m rfl) ?_
  refine xc (awp_len (t := 25) rfl (fun hl25 => ?_))
  (try simp only [List.length_map] at hl25)
  refine awp_block ?_
  refine awp_loopH [8, 27, 28, 29, 30, 31, 32, 33, 34, 35, 36, 37] [6, 35] (α := Nat) (fun k => [(27, T.i (k : Int))]) (fun k => [(6, .tbox [.d (.sl 2 (s.ar.el.map shC)), .d (.v (.int .i64 (s.ar.ou.w))), .d (.v (.int .i64 (s.ar.ou.m))), .d (.v (.int .i64 (s.ar.ou.k))), .d (.v (.int .i64 (s.ar.ou.t))), .d (.v (.int .i64 (s.ar.ba.w))), .d (.v (.int .i64 (s.ar.ba.m))), .d (.v (.int .i64 (s.ar.ba.k))), .d (.v (.int .i64 (s.ar.ba.t))), .d (.v (.int .i64 (s.ar.ts.1))), .d (.v (.int .i64 (s.ar.ts.2))), .d (.sl 1 (s.pl.map iC)), .rs 35]), (35, .row 72 3 ((ptsF s k).map ptnC))]) (fun k => k ≤ s.fl.length) (fun k => s.fl.length - k) 0 (Nat.zero_le _) ?_ ?_
  · exact xh (ms := [6, 35]) (by repeat (exact Out.refl _)) ⟨(by rfl), trivial⟩ ⟨(by rfl), (by rfl), trivial⟩
  ·
   intro k hk
   refine awp_seq ?_
   refine xa 1 ?_
   refine rg_q (q_lss rfl rfl) ?_
   refine rs (awp_cond rfl (fun hc6 => ?_) (fun hc6 => ?_))
   ·
    (try simp only [nb, ne_eq] at hc6)
    have hlt : k < s.fl.length := by omega
    obtain ⟨y, hx⟩ : ∃ y, s.fl[k]? = some y := ⟨_, List.getElem?_eq_getElem hlt⟩
    have hoky := hok.fl y (List.mem_of_getElem? hx)
    have hl1 := ptsL_len hoky
    have hl2 := ptsF_len hok.fl k (by omega)
    have hs1 : (ptsF s k ++ ptsL y).map ptnC = (ptsF s (k + 1)).map ptnC := by rw [ptsF_succ hx]
    refine awp_skip ?_
    change Awp _ _ _ _ _
    refine awp_seq ?_
    refine awp_block ?_
    refine awp_seq ?_
    refine xa 2 ?_
    refine rg_q (q_indexAddr sl30 rfl rfl (by omega) (map_at (by omega) hx)) ?_
    refine rg_q (q_loadA (ds := [_, _, _, _, _, _, _, _]) sz39 rfl rfl rfl) ?_
    refine rg_nil ?_
    refine aops_alloc zr39 rfl rfl rfl ?_
    refine aops_store sz39 rfl rfl (by exact .inr ⟨_, rfl⟩) rfl rfl (by decide) rfl ?_
    refine aops_nil ?_
    change Awp _ _ _ _ _
    refine awp_regionC 7 [0, 1, 4, 5, 6] [35, 6] mixed (by kernel_rfl) ?_
    refine rgc_c rfl rfl (c_q (q_fieldAddr_ref fld115_2 rfl)) ?_
    refine rgc_c rfl rfl (c_q (q_load_tb (x := .rs _) sz66 rfl rfl rfl)) ?_
    refine rgc_q rfl (q_load_refA (ds := [_, _, _, _, _, _, _, _]) sz39 rfl rfl rfl rfl) rfl ?_
    refine rgc_q rfl (q_call en55 (.cons rfl .nil) rfl (points_p _)) rfl ?_
    refine rgc_c rfl rfl (c_callR en83 (appendSeq_p (ptsF s k) (ptsL y) 88 [.pt (flwC y) 0] en88 (points_i y hoky) (by omega)) (.cons rfl (.cons rfl .nil)) rfl rfl rfl) ?_
    refine rgc_c rfl rfl (c_q (q_fieldAddr_ref fld115_2 rfl)) ?_
    refine rgc_c rfl rfl ((c_storeR sz66 rfl rfl rfl (by simp) rfl)) ?_
    refine rgc_nil ?_
    refine aops_nil ?_
    change Awp _ _ _ _ _
    refine xa 2 ?_
    refine rg_q (q_add rfl rfl xi) ?_
    refine rg_q (q_m rfl) ?_
    refine rn ?_
    refine ⟨k + 1, by omega, by omega, ?_⟩
    exact xh (ms := [6, 35]) (by repeat (first | exact Out.head rfl rfl | (refine Out.put ?_ rfl) | (refine Out.site ?_ rfl) | (refine Out.killS ?_ rfl) | (refine Out.ovD ?_ rfl))) ⟨(by rfl), trivial⟩ ⟨(by rfl), (by (show Site.row _ _ _ = Site.row _ _ _; rw [hs1])), trivial⟩
   ·
    (try simp only [nb, ne_eq] at hc6)
    have hkn : k = s.fl.length := by omega
    have hrow : (ptsF s k).map ptnC = (ptsS s).map ptnC := by unfold ptsF ptsS; rw [hkn, List.take_length]
    refine awp_exit ?_
    change Awp _ _ _ _ _
    refine awp_seq ?_
    refine Awp.le (le_freezeTB 6 35 12 (es := (ptsS s).map ptnC) rfl rfl (by show Site.row _ _ _ = _; rw [hrow]) rfl hmine) ?_
    refine Awp.le (le_boxT 6 (opnS s (ptsS s)) rfl rfl (by intro j d h; match j, h with | 0, h => cases h; rfl | 1, h => cases h; rfl | 2, h => cases h; rfl | 3, h => cases h; rfl | 4, h => cases h; rfl | 5, h => cases h; rfl | 6, h => cases h; rfl | 7, h => cases h; rfl | 8, h => cases h; rfl | 9, h => cases h; rfl | 10, h => cases h; rfl | 11, h => cases h; rfl | 12, h => cases h; rfl)) ?_
    refine xa 1 ?_
    refine rg_q (q_load_refA sz115 rfl rfl rfl rfl) ?_
    refine rg_nil ?_
    refine aops_store sz115 rfl rfl (by exact .inr ⟨_, rfl⟩) rfl rfl (by decide) rfl ?_
    refine aops_q rfl (q_a rfl) ?_
    refine aops_nil ?_
    change Awp _ _ _ _ _
    refine awp_ret ?_
    refine ⟨_, (.cons (.cellA rfl rfl sz115 rfl) xk1), ?_⟩
    rw [hz]; rfl
end Go.Proofs.YtkbdnkjjklbddaaGreatDoor.Am.M
-- mini
set_option maxRecDepth 100000
namespace Go.Proofs.YtkbdnkjjklbddaaGreatDoor.Am.M
open Go

theorem pts_amp {x : Flw} (h : FlwOk x) : ∀ q ∈ ptsL x, -1000 ≤ q.2 ∧ q.2 ≤ 1000 := by
  intro q hq
  unfold ptsL at hq
  split at hq
  · rw [List.mem_singleton.1 hq]; exact h.am
  · rename_i hk
    unfold ptsTo at hq
    obtain ⟨i, _, rfl⟩ := List.mem_map.1 hq
    have h1 := h.am
    have h2 := (h.pl hk).2.2.2
    unfold ptK
    simp only
    split
    · exact h2
    · exact h1
theorem ptsS_in {s : Spc} (h : SpcOk s) : (ptsS s).length ≤ 300 ∧ ∀ q ∈ ptsS s, -1000 ≤ q.2 ∧ q.2 ≤ 1000 := by
  refine ⟨?_, fun q hq => ?_⟩
  · have h1 := ptsF_len h.fl s.fl.length (Nat.le_refl _)
    have h2 : ptsF s s.fl.length = ptsS s := by unfold ptsF ptsS; rw [List.take_length]
    rw [h2] at h1
    have := h.f1
    omega
  · unfold ptsS at hq
    obtain ⟨x, hx, hq⟩ := List.mem_flatMap.1 hq
    exact pts_amp (h.fl x hx) q hq
def zM : Md := ⟨0, 0, 0, 0⟩
def zS : Spc := ⟨⟨[], zM, zM, (0, 0)⟩, [], []⟩
def tcR (s : Spc) (pr : Int × Int) : List D × Int := if (ckSpc s).2 ≠ 0 then (z64, (ckSpc s).2) else if pairE s.ar.el.length pr ≠ 0 then (z64, pairE s.ar.el.length pr) else trcR s (ptsS s) pr
theorem trcR_len (s : Spc) (P : List ((Int × Int) × Int)) (pr : Int × Int) : (trcR s P pr).1.length = 64 := by
  unfold trcR
  split
  · rfl
  · show ((smT s.ar s.pl pr P P.length).map fv).length = 64
    rw [List.length_map, smT_len]
theorem traceBad_p (s : Spc) (pr : Int × Int) (h0 : (ckSpc s).2 ≠ 0) : PC Tryz.prog 20 [.agg (spcC s), .agg (shC pr)] (.tup [.agg (tcR s pr).1, .v (.int .i64 ((tcR s pr).2))]) := by
 have hos : osR s = (zOp, (ckSpc s).2) := by unfold osR; rw [if_pos h0]
 have hz : tcR s pr = (z64, (ckSpc s).2) := by unfold tcR; rw [if_pos h0]
 have hfe : firstE [(ckSpc s).2, pairE zS.ar.el.length pr] = (ckSpc s).2 := by unfold firstE; rw [if_neg h0]
 refine pc_of_awp Tryz.func20 rfl Tryz.ntmps20 (rs := [.cell 4 63, .tmp 5]) Tryz.results20 (by simp) fun w0 => ?_
 refine awp_seq ?_
 refine xa 2 ?_
 refine rg_q (q_box rfl (by exact .inr ⟨_, rfl⟩)) ?_
 refine rg_q (q_box rfl (by exact .inr ⟨_, rfl⟩)) ?_
 refine rg_nil ?_
 refine aops_alloc zr63 rfl rfl rfl ?_
 refine aops_q rfl (q_a rfl) ?_
 refine aops_nil (xq (xa 5 ?_))
 refine rg_q (q_loadA sz32 rfl rfl rfl) ?_
 refine rg_q (q_call en50 (.cons rfl .nil) rfl ((by have h := openSpecimen_p s; rw [hos] at h; exact h))) ?_
 refine rg_q (q_move (x := .d (.tup _)) rfl) (rg_q (q_extract rfl rfl) (rg_q (q_extract rfl rfl) ?_))
 refine rg_nil ?_
 refine aops_alloc zr115 rfl rfl rfl ?_
 refine aops_store sz115 rfl rfl (by exact .inr ⟨_, rfl⟩) rfl rfl (by decide) rfl ?_
 refine aops_q rfl (q_a rfl) ?_
 refine aops_nil (xq (awp_seq ?_))
 refine Awp.le (le_upB 6 (opnS zS []) rfl (.cons (.nil 2) (.cons (.same _) (.cons (.same _) (.cons (.same _) (.cons (.same _) (.cons (.same _) (.cons (.same _) (.cons (.same _) (.cons (.same _) (.cons (.same _) (.cons (.same _) (.cons (.nil 1) (.cons (.nil 3) .nil)))))))))))))) ?_
 refine xa 8 ?_
 refine rg_q (q_m rfl) (rg_q (q_fieldAddr_ref fld115_0 rfl) ?_)
 refine rg_q (q_load_refA (ds := [_, _, _, _, _, _, _, _, _, _, _]) sz110 rfl rfl rfl rfl) ?_
 refine rg_q (q_loadA (ds := [_, _]) sz60 rfl rfl rfl) ?_
 refine rg_q (q_call en52 (.cons rfl (.cons rfl .nil)) rfl (pairErr_p zS.ar pr (Nat.zero_le _))) ?_
 refine rg_q (q_buildSlice sl160 zr40 rfl rfl (by decide) (.cons rfl (by exact .inl rfl) (.cons rfl (by exact .inl rfl) .nil)) ⟨rfl, rfl, rfl, rfl, trivial⟩ rfl (by decide) rfl) ?_
 refine rg_q (q_call en51 (.cons rfl .nil) rfl (bfirst_p [(ckSpc s).2, pairE zS.ar.el.length pr])) ?_
 refine rg_q (q_a rfl) ?_
 refine rs (xa 2 ?_)
 refine rg_q (q_m rfl) (rg_q (q_neq rfl rfl) ?_)
 refine xc (awp_cond rfl (fun hc3 => ?_) (fun hc3 => ?_))
 ·
  (try simp only [nb, ne_eq] at hc3)
  refine awp_seq ?_
  refine xa 2 ?_
  refine rg_q (q_buildA ar63 zr63 rfl .nil trivial rfl) ?_
  refine rg_q (q_m rfl) ?_
  refine rg_nil ?_
  refine aops_store sz63 rfl rfl (by exact .inr ⟨_, rfl⟩) rfl rfl (by decide) rfl ?_
  refine aops_q rfl (q_a rfl) ?_
  refine aops_nil ?_
  change Awp _ _ _ _ _
  refine awp_ret ?_
  refine ⟨_, (.cons (.cellA rfl rfl sz63 rfl) xk1), ?_⟩
  rw [hz, hfe]; rfl
 ·
  rw [hfe] at hc3
  exact absurd (Decidable.not_not.1 (of_decide_eq_false hc3)) h0
theorem traceOk_p (s : Spc) (pr : Int × Int) (h0 : (ckSpc s).2 = 0) : PC Tryz.prog 20 [.agg (spcC s), .agg (shC pr)] (.tup [.agg (tcR s pr).1, .v (.int .i64 ((tcR s pr).2))]) := by
 have hos : osR s = (opnS s (ptsS s), 0) := by unfold osR; rw [if_neg (fun q => q h0)]
 have hsp := spc_ok h0
 have hok := hsp.ar
 have hn2 := hok.n2
 obtain ⟨hp1, hp2⟩ := ptsS_in hsp
 have hfe : firstE [0, pairE s.ar.el.length pr] = pairE s.ar.el.length pr := by
  unfold firstE
  rw [if_pos rfl]
  unfold firstE
  by_cases q : pairE s.ar.el.length pr = 0
  · rw [if_pos q, q]; rfl
  · rw [if_neg q]
 have hlen := trcR_len s (ptsS s) pr
 refine pc_of_awp Tryz.func20 rfl Tryz.ntmps20 (rs := [.cell 4 63, .tmp 5]) Tryz.results20 (by simp) fun w0 => ?_
 refine awp_seq ?_
 refine xa 2 ?_
 refine rg_q (q_box rfl (by exact .inr ⟨_, rfl⟩)) ?_
 refine rg_q (q_box rfl (by exact .inr ⟨_, rfl⟩)) ?_
 refine rg_nil ?_
 refine aops_alloc zr63 rfl rfl rfl ?_
 refine aops_q rfl (q_a rfl) ?_
 refine aops_nil (xq (xa 5 ?_))
 refine rg_q (q_loadA sz32 rfl rfl rfl) ?_
 refine rg_q (q_call en50 (.cons rfl .nil) rfl ((by have h := openSpecimen_p s; rw [hos] at h; exact h))) ?_
 refine rg_q (q_move (x := .d (.tup _)) rfl) (rg_q (q_extract rfl rfl) (rg_q (q_extract rfl rfl) ?_))
 refine rg_nil ?_
 refine aops_alloc zr115 rfl rfl rfl ?_
 refine aops_store sz115 rfl rfl (by exact .inr ⟨_, rfl⟩) rfl rfl (by decide) rfl ?_
 refine aops_q rfl (q_a rfl) ?_
 refine aops_nil (xq (awp_seq ?_))
 refine xa 8 ?_
 refine rg_q (q_m rfl) (rg_q (q_fieldAddr_ref fld115_0 rfl) ?_)
 refine rg_q (q_load_refA (ds := [_, _, _, _, _, _, _, _, _, _, _]) sz110 rfl rfl rfl rfl) ?_
 refine rg_q (q_loadA (ds := [_, _]) sz60 rfl rfl rfl) ?_
 refine rg_q (q_call en52 (.cons rfl (.cons rfl .nil)) rfl (pairErr_p s.ar pr (by omega))) ?_
 refine rg_q (q_buildSlice sl160 zr40 rfl rfl (by decide) (.cons rfl (by exact .inl rfl) (.cons rfl (by exact .inl rfl) .nil)) ⟨rfl, rfl, rfl, rfl, trivial⟩ rfl (by decide) rfl) ?_
 refine rg_q (q_call en51 (.cons rfl .nil) rfl (bfirst_p [0, pairE s.ar.el.length pr])) ?_
 refine rg_q (q_a rfl) ?_
 refine rs (xa 2 ?_)
 refine rg_q (q_m rfl) (rg_q (q_neq rfl rfl) ?_)
 refine xc (awp_cond rfl (fun hc3 => ?_) (fun hc3 => ?_))
 ·
  (try simp only [nb, ne_eq] at hc3)
  rw [hfe] at hc3 ⊢
  have hz : tcR s pr = (z64, pairE s.ar.el.length pr) := by unfold tcR; rw [if_neg (fun q => q h0), if_pos hc3]
  refine awp_seq ?_
  refine xa 2 ?_
  refine rg_q (q_buildA ar63 zr63 rfl .nil trivial rfl) ?_
  refine rg_q (q_m rfl) ?_
  refine rg_nil ?_
  refine aops_store sz63 rfl rfl (by exact .inr ⟨_, rfl⟩) rfl rfl (by decide) rfl ?_
  refine aops_q rfl (q_a rfl) ?_
  refine aops_nil ?_
  change Awp _ _ _ _ _
  refine awp_ret ?_
  refine ⟨_, (.cons (.cellA rfl rfl sz63 (by rfl)) xk1), ?_⟩
  rw [hz]; rfl
 ·
  (try simp only [nb, ne_eq] at hc3)
  rw [hfe] at hc3
  have hp0 : pairE s.ar.el.length pr = 0 := hc3
  have hpk := pair_ok hp0
  have hz : tcR s pr = trcR s (ptsS s) pr := by unfold tcR; rw [if_neg (fun q => q h0), if_neg (fun q => q hp0)]
  refine awp_skip ?_
  change Awp _ _ _ _ _
  refine awp_seq ?_
  refine xa 5 ?_
  refine rg_q (q_load_refA sz115 rfl rfl rfl rfl) ?_
  refine rg_q (q_loadA (ds := [_, _]) sz60 rfl rfl rfl) ?_
  refine rg_q (q_call en53 (.cons rfl (.cons rfl .nil)) rfl (traceOf_p s (ptsS s) pr hok hpk hsp.p1 hsp.p2 hp1 hp2)) ?_
  refine rg_q (q_extract rfl rfl) (rg_q (q_extract rfl rfl) ?_)
  refine rg_nil ?_
  refine aops_store (cs' := (trcR s (ptsS s) pr).1) sz63 rfl rfl (by exact .inr ⟨_, rfl⟩) hlen rfl (Nat.le_of_ble_eq_true rfl) (setCs_all hlen) ?_
  refine aops_q rfl (q_a rfl) ?_
  refine aops_nil ?_
  change Awp _ _ _ _ _
  refine awp_ret ?_
  refine ⟨_, (.cons (.cellA rfl rfl sz63 (by exact hlen)) xk1), ?_⟩
  rw [hz]; rfl

theorem traceOfS_p (s : Spc) (pr : Int × Int) : PC Tryz.prog 20 [.agg (spcC s), .agg (shC pr)] (.tup [.agg (tcR s pr).1, .v (.int .i64 ((tcR s pr).2))]) := by
  by_cases h : (ckSpc s).2 = 0
  · exact traceOk_p s pr h
  · exact traceBad_p s pr h
end Go.Proofs.YtkbdnkjjklbddaaGreatDoor.Am.M
-- mini
set_option maxRecDepth 100000
namespace Go.Proofs.YtkbdnkjjklbddaaGreatDoor.Am.M
open Go

theorem eq38_low (a0 a1 b0 b1 : Int) (w : World) : (Op.equalIn (9998 + 1) 37 (.agg #[iW a0, iW a1]) (.agg #[iW b0, iW b1])).run Tryz.prog w = .ok (decide ([a0, a1] = [b0, b1])) w := by
  have hf : (Tryz.prog.fieldsOf 37).toList = [⟨ "X", 3, 0, false, "", "", 0⟩, ⟨ "Z", 3, 1, false, "", "", 8⟩] := by kernel_rfl
  rw [show (9998 + 1 : Nat) = 9997 + 1 + 1 from rfl, run_equalIn_struct w (9997 + 1) 37 _ _ (by kernel_rfl) (by kernel_rfl), hf]
  have u3 := Tryz.underlying3
  simp [Op.eqFields, part, isAgg, run_underlying u3, iW, run_equalIn_int, u3, Result.andThen]
  (repeat' split) <;> simp_all

theorem eqi72 : EqI Tryz.prog 72 3 := by
  intro xs ys hx hy w
  match xs, ys, hx, hy with
  | [a0, a1, a2], [b0, b1, b2], _, _ =>
    refine ⟨fun x y => run_eqGuard_agg w .eql 72 x y _ _ (by kernel_rfl), fun x y => run_eqGuard_agg w .neq 72 x y _ _ (by kernel_rfl), ?_⟩
    have hf : (Tryz.prog.fieldsOf 72).toList = [⟨ "At", 37, 0, false, "", "", 0⟩, ⟨ "Amplitude", 3, 2, false, "", "", 16⟩] := by kernel_rfl
    rw [show (10000 : Nat) = 9998 + 1 + 1 from rfl, run_equalIn_struct w (9998 + 1) 72 _ _ (by kernel_rfl) (by kernel_rfl), hf]
    have u3 := Tryz.underlying3
    have u37 := Tryz.underlying37
    have hl := eq38_low a0 a1 b0 b1 w
    simp only [iW] at hl
    simp [Op.eqFields, part, isAgg, run_underlying u3, run_underlying u37, iW, run_equalIn_int, u3, Result.andThen, hl]
    (repeat' split) <;> simp_all

section
variable {P : Program} {w0 : Cx} {n : Nat} {s : Nat → Site} {ev : Operand → T} {dst : Option Tmp} {ty : TypeId} {pos : String} {after : Array Edge} {g : Option (Nat × Bool)}
theorem q_fieldA {t : TypeId} {y : Operand} {f off m : Nat} {ft : TypeId} {cs ds : List D} (ht : (match P.underlying t with | some (.struct fs) => (fs[f]?).map (fun fd => (fd.offset, fd.type)) | _ => none) = some (off, ft)) (hs : szB P ft true m = true) (hy : ev y = .d (.agg cs)) (hd : (cs.drop off).take m = ds) (hl : ds.length = m) : QOp P w0 n s ev ⟨dst, .field t y f, ty, pos, after, g⟩ (.d (.agg ds)) :=
  .mk fun a w ok blk val h _ hnew => by
    subst hd
    obtain ⟨vs, hv, hL, hsc⟩ := agg_inv (show Rep w _ (.agg cs) (a.eval y) by have := h y; rw [hy] at this; exact this)
    have hlen : vs.length = cs.length := hL.length
    refine ⟨.agg ((vs.drop off).take m).toArray, w, ?_, Ext.refl w, ?_⟩
    · cases hu : P.underlying t with
      | none => simp [hu] at ht
      | some q =>
        cases q <;> simp only [hu, reduceCtorEq] at ht
        rename_i fs
        cases hf : fs[f]? with
        | none => simp [hf] at ht
        | some fd =>
          simp only [hf, Option.map_some, Option.some.injEq, Prod.mk.injEq] at ht
          obtain ⟨e1, e2⟩ := ht
          subst e1; subst e2
          simp [execOp, Instr.field, run_underlying hu, hf, hv, asAgg, part, szB_agg hs, szB_size hs]
    · refine Rep.agg _ _ (by rw [List.length_take, List.length_drop, List.length_take, List.length_drop, hlen]) (fun j d hj => ?_) (fun j d v hj hv => ?_)
      · rw [List.getElem?_take] at hj
        split at hj
        · rw [List.getElem?_drop] at hj; exact hsc _ d hj
        · cases hj
      · rw [List.getElem?_take] at hj hv
        split at hj
        · rename_i hjm
          rw [if_pos hjm, List.getElem?_drop] at hv
          rw [List.getElem?_drop] at hj
          exact hL.get _ d v hj hv
        · cases hj
end
theorem samePoints_p (l m : List ((Int × Int) × Int)) : PC Tryz.prog 23 [.sl 3 (l.map ptnC), .sl 3 (m.map ptnC)] (.v (.bool (decide (l = m)))) := by
 refine pc_of_awp Tryz.func23 rfl Tryz.ntmps23 (rs := [.tmp 4]) Tryz.results23 (by simp) fun w0 => ?_
 refine awp_seq ?_
 refine xa 1 ?_
 refine rg_q (q_a rfl) ?_
 refine rs (awp_seq ?_)
 refine xa 5 ?_
 refine rg_q (q_move (x := .d (.sl _ _)) rfl) ?_
 refine rg_q (q_len isl66 rfl (by exact len_map _ _)) ?_
 refine rg_q (q_move (x := .d (.sl _ _)) rfl) ?_
 refine rg_q (q_len isl66 rfl (by exact len_map _ _)) ?_
 refine rg_q (q_neq rfl rfl) ?_
 refine xc (awp_len (t := 6) rfl (fun hl6 => ?_))
 (try simp only [List.length_map] at hl6)
 refine awp_len (t := 8) rfl (fun hl8 => ?_)
 (try simp only [List.length_map] at hl8)
 refine awp_cond rfl (fun hc1 => ?_) (fun hc1 => ?_)
 ·
  (try simp only [nb, ne_eq] at hc1)
  have hz : decide (l = m) = false := decide_eq_false (fun e => by rw [e] at hc1; omega)
  refine awp_seq ?_
  refine xa 1 ?_
  refine rg_q (q_a rfl) ?_
  refine xc (awp_ret ?_)
  refine ⟨_, xk1, ?_⟩
  rw [hz]; rfl
 ·
  (try simp only [nb, ne_eq] at hc1)
  have hlm : l.length = m.length := by omega
  refine awp_skip ?_
  change Awp _ _ _ _ _
  refine awp_seq ?_
  refine awp_seq ?_
  refine xa 1 ?_
  refine rg_q (q_a rfl) ?_
  refine xc (awp_block ?_)
  refine awp_loopH [4, 5, 11, 12, 13, 14, 15, 16, 17, 18, 19, 20, 21, 22, 23, 24, 25] [] (α := Nat) (fun k => [(5, T.i (k : Int))]) (fun k => []) (fun k => k ≤ l.length ∧ l.take k = m.take k) (fun k => l.length - k) 0 ⟨Nat.zero_le _, rfl⟩ ?_ ?_
  · exact xh (ms := []) (by repeat (exact Out.refl _)) ⟨(by rfl), trivial⟩ trivial
  ·
   intro k ⟨hk, hf⟩
   refine awp_seq ?_
   refine awp_seq ?_
   refine xa 4 ?_
   refine rg_q (q_m rfl) (rg_q (q_move (x := .d (.sl _ _)) rfl) ?_)
   refine rg_q (q_len isl66 rfl (by exact len_map _ _)) ?_
   refine rg_q (q_lss rfl rfl) ?_
   refine xc (awp_len (t := 12) rfl (fun hl12 => ?_))
   (try simp only [List.length_map] at hl12)
   refine awp_cond rfl (fun hc4 => ?_) (fun hc4 => ?_)
   ·
    (try simp only [nb, ne_eq] at hc4)
    have hlt : k < l.length := by omega
    obtain ⟨x, hx⟩ : ∃ x, l[k]? = some x := ⟨_, List.getElem?_eq_getElem hlt⟩
    obtain ⟨y, hy⟩ : ∃ y, m[k]? = some y := ⟨_, List.getElem?_eq_getElem (by omega)⟩
    refine awp_skip ?_
    change Awp _ _ _ _ _
    refine awp_seq ?_
    refine awp_block ?_
    refine awp_seq ?_
    refine xa 9 ?_
    refine rg_q (q_move (x := .d (.sl _ _)) rfl) (rg_q (q_m rfl) ?_)
    refine rg_q (q_indexAddr sl66 rfl rfl (by omega) (map_at (k := k) (by omega) hx)) ?_
    refine rg_q (q_loadA (ds := [_, _, _]) sz72 rfl rfl rfl) ?_
    refine rg_q (q_move (x := .d (.sl _ _)) rfl) (rg_q (q_m rfl) ?_)
    refine rg_q (q_indexAddr sl66 rfl rfl (by omega) (map_at (k := k) (by omega) hy)) ?_
    refine rg_q (q_loadA (ds := [_, _, _]) sz72 rfl rfl rfl) ?_
    refine rg_q (q_neqI (xs := [_, _, _]) (ys := [_, _, _]) eqi72 rfl rfl rfl rfl) ?_
    refine xc (awp_cond rfl (fun hc6 => ?_) (fun hc6 => ?_))
    ·
     (try simp only [nb, ne_eq] at hc6)
     have hz : decide (l = m) = false := decide_eq_false (fun e => by rw [e, hy] at hx; have hxy := Option.some.inj hx; subst hxy; simp at hc6)
     refine awp_seq ?_
     refine xa 1 ?_
     refine rg_q (q_a rfl) ?_
     refine xc (awp_ret ?_)
     refine ⟨_, xk1, ?_⟩
     rw [hz]; rfl
    ·
     (try simp only [nb, ne_eq] at hc6)
     have hxy : x = y := by
      obtain ⟨⟨x1, x2⟩, x3⟩ := x
      obtain ⟨⟨y1, y2⟩, y3⟩ := y
      simp_all
     have hnx : l.take (k + 1) = m.take (k + 1) := by rw [List.take_succ_eq_append_getElem hlt, List.take_succ_eq_append_getElem (by omega), hf, (List.getElem?_eq_some_iff.1 hx).2, (List.getElem?_eq_some_iff.1 hy).2, hxy]
     refine awp_skip ?_
     change Awp _ _ _ _ _
     refine xa 3 ?_
     refine rg_q (q_m rfl) ?_
     refine rg_q (q_add rfl rfl xi) ?_
     refine rg_q (q_a rfl) ?_
     refine rn ?_
     refine ⟨k + 1, ⟨by omega, hnx⟩, by omega, ?_⟩
     exact xh (ms := []) (by repeat (first | exact Out.head rfl rfl | (refine Out.put ?_ rfl))) ⟨(by rfl), trivial⟩ trivial
   ·
    (try simp only [nb, ne_eq] at hc4)
    have hz : decide (l = m) = true := decide_eq_true (by rw [← List.take_of_length_le (l := l) (i := k) (by omega), hf, List.take_of_length_le (by omega)])
    refine awp_exit ?_
    change Awp _ _ _ _ _
    refine awp_seq ?_
    refine xa 1 ?_
    refine rg_q (q_a rfl) ?_
    refine xc (awp_ret ?_)
    refine ⟨_, xk1, ?_⟩
    rw [hz]; rfl

def oneM : Md := ⟨2500, 5000, 0, 1000⟩
def oneS : Spc := ⟨⟨[(0, -300)], oneM, oneM, (3900000, 50000)⟩, [3, -2], [⟨0, (0, 400), (0, 0), 0, 10, 0⟩]⟩
def exF : Flw := ⟨1, (0, 400), (30, 400), 4, 5, 2⟩
def exB : List Nat := 0 :: 0 :: 1106247680 :: 3248488448 :: List.replicate 60 0
theorem ex_ech : echR oneS.ar (0, 400) (0, 0) = (3999980, 0) := by decide +kernel
theorem ex_pof : pofR exF = ([((0, 400), 2), ((8, 400), 5), ((15, 400), 5), ((23, 400), 5), ((30, 400), 2)], 0) := by decide +kernel
theorem ex_smT : smT oneS.ar oneS.pl (0, 0) (ptsS oneS) (ptsS oneS).length = 0 :: 0 :: 30 :: -20 :: List.replicate 60 0 := by decide +kernel
theorem ex_tc : tcR oneS (0, 0) = (exB.map fd, 0) := by
  have h1 : (ckSpc oneS).2 = 0 := by decide +kernel
  have h2 : pairE oneS.ar.el.length (0, 0) = 0 := by decide +kernel
  unfold tcR
  rw [if_neg (fun q => q h1), if_neg (fun q => q h2)]
  unfold trcR
  rw [ex_smT, if_neg (by decide +kernel)]
  have h3 : (0 :: 0 :: 30 :: -20 :: List.replicate 60 0 : List Int).map FloatKind.f32.nearest = exB := by decide +kernel
  rw [← h3, List.map_map]; rfl
theorem one_p  : PC Tryz.prog 19 [] (.agg (spcC oneS)) := by
 refine pc_of_awp Tryz.func19 rfl Tryz.ntmps19 (rs := [.cell 0 32]) Tryz.results19 (by simp) fun w0 => ?_
 refine awp_seq ?_
 refine xa 0 ?_
 refine rg_nil ?_
 refine aops_alloc zr32 rfl rfl rfl ?_
 refine aops_nil (xq (xa 1 ?_))
 refine rg_q (q_build (cs := [_, _, _, _]) pl24 zr24 rfl (.cons rfl (by exact .inl rfl) (.cons rfl (by exact .inl rfl) (.cons rfl (by exact .inl rfl) .nil))) ⟨⟨rfl, by decide⟩, ⟨rfl, by decide⟩, ⟨rfl, by decide⟩, trivial⟩ rfl) ?_
 refine rg_nil ?_
 refine aops_alloc zr24 rfl rfl rfl ?_
 refine aops_store sz24 rfl rfl (by exact .inr ⟨_, rfl⟩) rfl rfl (by decide) rfl ?_
 refine aops_nil (xq (xa 11 ?_))
 refine rg_q (q_build (cs := [_, _]) pl37 zr37 rfl (.cons rfl (by exact .inl rfl) (.cons rfl (by exact .inl rfl) .nil)) ⟨⟨rfl, by decide⟩, ⟨rfl, by decide⟩, trivial⟩ rfl) ?_
 refine rg_q (q_buildSlice sl22 zr37 rfl rfl (by decide) (.cons rfl (by exact .inr ⟨_, rfl⟩) .nil) ⟨rfl, rfl, trivial⟩ rfl (by decide) rfl) ?_
 refine rg_q (q_load_refA (ds := [_, _, _, _]) sz24 rfl rfl rfl rfl) ?_
 refine rg_q (q_load_refA (ds := [_, _, _, _]) sz24 rfl rfl rfl rfl) ?_
 refine rg_q (q_build (cs := [_, _]) pl26 zr26 rfl (.cons rfl (by exact .inl rfl) (.cons rfl (by exact .inl rfl) .nil)) ⟨⟨rfl, by decide⟩, ⟨rfl, by decide⟩, trivial⟩ rfl) ?_
 refine rg_q (q_build (cs := [_, _, _, _, _, _, _, _, _, _, _]) pl28 zr28 rfl (.cons rfl (by exact .inl rfl) (.cons rfl (by exact .inr ⟨_, rfl⟩) (.cons rfl (by exact .inr ⟨_, rfl⟩) (.cons rfl (by exact .inr ⟨_, rfl⟩) .nil)))) ⟨⟨rfl, by decide⟩, ⟨rfl, by decide⟩, ⟨rfl, by decide⟩, ⟨rfl, by decide⟩, trivial⟩ rfl) ?_
 refine rg_q (q_buildSlice sl29 zr3 rfl rfl (by decide) (.cons rfl (by exact .inl rfl) (.cons rfl (by exact .inl rfl) .nil)) ⟨rfl, rfl, rfl, rfl, trivial⟩ rfl (by decide) rfl) ?_
 refine rg_q (q_build (cs := [_, _]) pl37 zr37 rfl (.cons rfl (by exact .inl rfl) (.cons rfl (by exact .inl rfl) .nil)) ⟨⟨rfl, by decide⟩, ⟨rfl, by decide⟩, trivial⟩ rfl) ?_
 refine rg_q (q_build (cs := [_, _, _, _, _, _, _, _]) pl39 zr39 rfl (.cons rfl (by exact .inr ⟨_, rfl⟩) (.cons rfl (by exact .inl rfl) .nil)) ⟨⟨rfl, by decide⟩, ⟨rfl, by decide⟩, trivial⟩ rfl) ?_
 refine rg_q (q_buildSlice sl30 zr39 rfl rfl (by decide) (.cons rfl (by exact .inr ⟨_, rfl⟩) .nil) ⟨rfl, rfl, trivial⟩ rfl (by decide) rfl) ?_
 refine rg_q (q_build pl32 zr32 rfl (.cons rfl (by exact .inr ⟨_, rfl⟩) (.cons rfl (by exact .inl rfl) (.cons rfl (by exact .inl rfl) .nil))) ⟨⟨rfl, by decide⟩, ⟨rfl, by decide⟩, ⟨rfl, by decide⟩, trivial⟩ rfl) ?_
 refine rg_nil ?_
 refine aops_store sz32 rfl rfl (by exact .inr ⟨_, rfl⟩) rfl rfl (by decide) rfl ?_
 refine aops_nil ?_
 change Awp _ _ _ _ _
 refine awp_ret ?_
 refine ⟨_, (.cons (.cellA rfl rfl sz32 rfl) .nil), ?_⟩
 rfl
theorem awake_p  : PC Tryz.prog 4 [] (.v (.bool (true))) := by
 refine pc_of_awpN Tryz.func4 rfl Tryz.ntmps4 (rs := [.tmp 0]) Tryz.results4 (by simp) fun w0 hmine hrnd hpn => ?_
 refine awp_seq ?_
 refine xa 1 ?_
 refine rg_q (q_a rfl) ?_
 refine rs (xa 10 ?_)
 refine rg_q (q_call en19 .nil rfl (one_p)) ?_
 refine rg_q (q_fieldA fd32_0 sz28 rfl rfl rfl) ?_
 refine rg_q (q_build (cs := [_, _]) pl37 zr37 rfl (.cons rfl (by exact .inl rfl) (.cons rfl (by exact .inl rfl) .nil)) ⟨⟨rfl, by decide⟩, ⟨rfl, by decide⟩, trivial⟩ rfl) ?_
 refine rg_q (q_buildA (cs := [_, _]) ar60 zr60 rfl .nil trivial rfl) ?_
 refine rg_q (q_call en18 (.cons rfl (.cons rfl (.cons rfl .nil))) rfl ((by have h := echoAt_p oneS.ar (0, 400) (0, 0); rw [ex_ech] at h; exact h))) ?_
 refine rg_q (q_move (x := .d (.tup _)) rfl) (rg_q (q_extract rfl rfl) (rg_q (q_extract rfl rfl) (rg_q (q_a rfl) (rg_q (q_a rfl) ?_))))
 refine rs (xa 6 ?_)
 refine rg_q (q_call en19 .nil rfl (one_p)) ?_
 refine rg_q (q_buildA (cs := [_, _]) ar60 zr60 rfl .nil trivial rfl) ?_
 refine rg_q (q_call en20 (.cons rfl (.cons rfl .nil)) rfl ((by have h := traceOfS_p oneS (0, 0); rw [ex_tc] at h; exact h))) ?_
 refine rg_q (q_move (x := .d (.tup _)) rfl) (rg_q (q_extract rfl rfl) (rg_q (q_extract rfl rfl) ?_))
 refine rg_nil ?_
 refine aops_alloc zr63 rfl rfl rfl ?_
 refine aops_store (cs' := exB.map fd) sz63 rfl rfl (by exact .inr ⟨_, rfl⟩) rfl rfl (Nat.le_of_ble_eq_true rfl) rfl ?_
 refine aops_q rfl (q_a rfl) ?_
 refine aops_nil (xq (xa 9 ?_))
 refine rg_q (q_build (cs := [_, _]) pl37 zr37 rfl (.cons rfl (by exact .inl rfl) (.cons rfl (by exact .inl rfl) .nil)) ⟨⟨rfl, by decide⟩, ⟨rfl, by decide⟩, trivial⟩ rfl) ?_
 refine rg_q (q_build (cs := [_, _]) pl37 zr37 rfl (.cons rfl (by exact .inl rfl) (.cons rfl (by exact .inl rfl) .nil)) ⟨⟨rfl, by decide⟩, ⟨rfl, by decide⟩, trivial⟩ rfl) ?_
 refine rg_q (q_build (cs := [_, _, _, _, _, _, _, _]) pl39 zr39 rfl (.cons rfl (by exact .inl rfl) (.cons rfl (by exact .inr ⟨_, rfl⟩) (.cons rfl (by exact .inr ⟨_, rfl⟩) (.cons rfl (by exact .inl rfl) (.cons rfl (by exact .inl rfl) (.cons rfl (by exact .inl rfl) .nil)))))) ⟨⟨rfl, by decide⟩, ⟨rfl, by decide⟩, ⟨rfl, by decide⟩, ⟨rfl, by decide⟩, ⟨rfl, by decide⟩, ⟨rfl, by decide⟩, trivial⟩ rfl) ?_
 refine rg_q (q_call en21 (.cons rfl .nil) rfl ((by have h := pointsOf_p exF; rw [ex_pof] at h; exact h))) ?_
 refine rg_q (q_move (x := .d (.tup _)) rfl) (rg_q (q_extract rfl rfl) (rg_q (q_extract rfl rfl) (rg_q (q_assign (x := .d (.sl _ _)) rfl) (rg_q (q_a rfl) ?_))))
 refine rs (xa 35 ?_)
 refine rg_q (q_m rfl) (rg_q (q_eql rfl rfl) (rg_q (q_m rfl) ?_))
 refine rg_g rfl rfl (fun hG => (q_m rfl)) ?_
 refine rg_g rfl rfl (fun hG => (q_eql rfl rfl)) ?_
 refine rg_pick rfl rfl rfl rfl rfl rfl ?_
 refine rg_q (q_m rfl) ?_
 refine rg_g rfl rfl (fun hG => (q_m rfl)) ?_
 refine rg_g rfl rfl (fun hG => (q_eql rfl rfl)) ?_
 refine rg_pick rfl rfl rfl rfl rfl rfl ?_
 refine rg_q (q_m rfl) ?_
 refine rg_g rfl rfl (fun hG => (q_load_refA sz63 rfl rfl rfl rfl)) ?_
 refine rg_g rfl rfl (fun hG => (q_buildA ar63 zr63 rfl (.cons rfl (by exact .inl rfl) (.cons rfl (by exact .inl rfl) .nil)) ⟨⟨rfl, by decide⟩, ⟨rfl, by decide⟩, trivial⟩ rfl)) ?_
 refine rg_g rfl rfl (fun hG => (q_call en22 (.cons rfl (.cons rfl .nil)) rfl (sameTrace_p exB exB rfl rfl))) ?_
 refine rg_pick rfl rfl rfl rfl rfl rfl ?_
 refine rg_q (q_m rfl) ?_
 refine rg_g rfl rfl (fun hG => (q_m rfl)) ?_
 refine rg_g rfl rfl (fun hG => (q_eql rfl rfl)) ?_
 refine rg_pick rfl rfl rfl rfl rfl rfl ?_
 refine rg_q (q_m rfl) ?_
 refine rg_g rfl rfl (fun hG => (q_move (x := .d (.sl _ _)) rfl)) ?_
 refine rg_g rfl rfl (fun hG => (q_build (cs := [_, _]) pl37 zr37 rfl (.cons rfl (by exact .inl rfl) (.cons rfl (by exact .inl rfl) .nil)) ⟨⟨rfl, by decide⟩, ⟨rfl, by decide⟩, trivial⟩ rfl)) ?_
 refine rg_g rfl rfl (fun hG => (q_build (cs := [_, _, _]) pl72 zr72 rfl (.cons rfl (by exact .inr ⟨_, rfl⟩) (.cons rfl (by exact .inl rfl) .nil)) ⟨⟨rfl, by decide⟩, ⟨rfl, by decide⟩, trivial⟩ rfl)) ?_
 refine rg_g rfl rfl (fun hG => (q_build (cs := [_, _]) pl37 zr37 rfl (.cons rfl (by exact .inl rfl) (.cons rfl (by exact .inl rfl) .nil)) ⟨⟨rfl, by decide⟩, ⟨rfl, by decide⟩, trivial⟩ rfl)) ?_
 refine rg_g rfl rfl (fun hG => (q_build (cs := [_, _, _]) pl72 zr72 rfl (.cons rfl (by exact .inr ⟨_, rfl⟩) (.cons rfl (by exact .inl rfl) .nil)) ⟨⟨rfl, by decide⟩, ⟨rfl, by decide⟩, trivial⟩ rfl)) ?_
 refine rg_g rfl rfl (fun hG => (q_build (cs := [_, _]) pl37 zr37 rfl (.cons rfl (by exact .inl rfl) (.cons rfl (by exact .inl rfl) .nil)) ⟨⟨rfl, by decide⟩, ⟨rfl, by decide⟩, trivial⟩ rfl)) ?_
 refine rg_g rfl rfl (fun hG => (q_build (cs := [_, _, _]) pl72 zr72 rfl (.cons rfl (by exact .inr ⟨_, rfl⟩) (.cons rfl (by exact .inl rfl) .nil)) ⟨⟨rfl, by decide⟩, ⟨rfl, by decide⟩, trivial⟩ rfl)) ?_
 refine rg_g rfl rfl (fun hG => (q_build (cs := [_, _]) pl37 zr37 rfl (.cons rfl (by exact .inl rfl) (.cons rfl (by exact .inl rfl) .nil)) ⟨⟨rfl, by decide⟩, ⟨rfl, by decide⟩, trivial⟩ rfl)) ?_
 refine rg_g rfl rfl (fun hG => (q_build (cs := [_, _, _]) pl72 zr72 rfl (.cons rfl (by exact .inr ⟨_, rfl⟩) (.cons rfl (by exact .inl rfl) .nil)) ⟨⟨rfl, by decide⟩, ⟨rfl, by decide⟩, trivial⟩ rfl)) ?_
 refine rg_g rfl rfl (fun hG => (q_build (cs := [_, _]) pl37 zr37 rfl (.cons rfl (by exact .inl rfl) (.cons rfl (by exact .inl rfl) .nil)) ⟨⟨rfl, by decide⟩, ⟨rfl, by decide⟩, trivial⟩ rfl)) ?_
 refine rg_g rfl rfl (fun hG => (q_build (cs := [_, _, _]) pl72 zr72 rfl (.cons rfl (by exact .inr ⟨_, rfl⟩) (.cons rfl (by exact .inl rfl) .nil)) ⟨⟨rfl, by decide⟩, ⟨rfl, by decide⟩, trivial⟩ rfl)) ?_
 refine rg_g rfl rfl (fun hG => (q_buildSlice sl66 zr72 rfl rfl (by decide) (.cons rfl (by exact .inr ⟨_, rfl⟩) (.cons rfl (by exact .inr ⟨_, rfl⟩) (.cons rfl (by exact .inr ⟨_, rfl⟩) (.cons rfl (by exact .inr ⟨_, rfl⟩) (.cons rfl (by exact .inr ⟨_, rfl⟩) .nil))))) ⟨rfl, rfl, rfl, rfl, rfl, rfl, rfl, rfl, rfl, rfl, trivial⟩ rfl (by decide) rfl)) ?_
 refine rg_g rfl rfl (fun hG => (q_call en23 (.cons rfl (.cons rfl .nil)) rfl (samePoints_p [((0, 400), 2), ((8, 400), 5), ((15, 400), 5), ((23, 400), 5), ((30, 400), 2)] [((0, 400), 2), ((8, 400), 5), ((15, 400), 5), ((23, 400), 5), ((30, 400), 2)]))) ?_
 refine rg_pick rfl rfl rfl rfl rfl rfl ?_
 refine rg_q (q_a rfl) ?_
 refine xc (awp_ret ?_)
 refine ⟨_, xk1, ?_⟩
 simp [retD]
end Go.Proofs.YtkbdnkjjklbddaaGreatDoor.Am.M
-- mini
set_option maxRecDepth 100000
namespace Go.Proofs.YtkbdnkjjklbddaaGreatDoor.Am.M
open Go
theorem copyInts4_p (l : List Int) (hl : l.length ≤ 1000) : PC Tryz.prog 40 [.sl 1 (l.map iC)] (.sl 1 (l.map iC)) := by
 refine pc_of_awp Tryz.func40 rfl Tryz.ntmps40 (rs := [.tmp 2]) Tryz.results40 (by simp) fun w0 => ?_
 refine awp_seq ?_
 refine xa 1 ?_
 refine rg_q (q_assign (x := .d (.sl _ _)) rfl) ?_
 refine rs (xa 0 ?_)
 refine rg_nil ?_
 refine aops_empty sl29 zr3 rfl rfl ?_
 refine aops_q rfl (q_move (x := .d (.sl _ _)) rfl) ?_
 refine aops_append sl29 zr3 by3 rfl (by decide) rfl rfl rfl rfl (by (try simp only [List.length_map, List.length_append, List.length_cons, List.length_nil]); omega) (by (try simp only [List.length_map, List.length_append, List.length_cons, List.length_nil]); omega) rfl rfl ?_
 refine aops_q rfl (q_assign (x := .rs _) rfl) ?_
 refine aops_nil ?_
 change Awp _ _ _ _ _
 refine awp_ret ?_
 refine ⟨_, (.cons (.tmp (by exact .rs rfl)) .nil), ?_⟩
 rfl

end Go.Proofs.YtkbdnkjjklbddaaGreatDoor.Am.M
-- mini
set_option maxRecDepth 100000
namespace Go.Proofs.YtkbdnkjjklbddaaGreatDoor.Am.M
open Go
theorem risSpot_p (p : Int × Int) : PC Tryz.prog 31 [.agg (shC p)] (.v (.bool ((inR (-100000) p.1 100000 && inR (-100000) p.2 100000)))) := by
 refine pc_of_awp Tryz.func31 rfl Tryz.ntmps31 (rs := [.tmp 2]) Tryz.results31 (by simp) fun w0 => ?_
 refine awp_seq ?_
 refine xa 2 ?_
 refine rg_q (q_box rfl (by exact .inr ⟨_, rfl⟩)) ?_
 refine rg_q (q_a rfl) ?_
 refine rs (xa 9 ?_)
 refine rg_q (q_fieldAddr fld37_0 rfl) (rg_q (q_load sz3 rfl rfl) ?_)
 refine rg_q (q_call en33 (.cons rfl (.cons rfl (.cons rfl .nil))) rfl (within4_p _ _ _)) ?_
 refine rg_q (q_m rfl) ?_
 refine rg_g rfl rfl (fun hG => (q_fieldAddr fld37_1 rfl)) ?_
 refine rg_g rfl rfl (fun hG => (q_load sz3 rfl rfl)) ?_
 refine rg_g rfl rfl (fun hG => (q_call en33 (.cons rfl (.cons rfl (.cons rfl .nil))) rfl (within4_p _ _ _))) ?_
 refine rg_pick rfl rfl rfl rfl rfl rfl ?_
 refine rg_q (q_a rfl) ?_
 refine xc (awp_ret ?_)
 refine ⟨_, xk1, ?_⟩
 simp only [bif_and]; rfl

theorem spotE_is (p : Int × Int) : spotE p = if (inR (-100000) p.1 100000 && inR (-100000) p.2 100000) = true then 0 else 2 := by
  by_cases h : spotE p = 0
  · rw [h]
    have := spot_ok.1 h
    rw [if_pos (by simp [inR]; omega)]
  · have h2 : spotE p = 2 := by
      unfold spotE mustI at h ⊢
      split at h
      · exact absurd rfl h
      · rename_i q; rw [if_neg q]
    rw [h2, if_neg]
    intro q
    simp [inR] at q
    exact h (spot_ok.2 (by omega))
theorem rcheckFlaw_p (x : Flw) : PC Tryz.prog 9 [.agg (flwC x)] (.v (.int .i64 (flwE x))) := by
  have s1 := spotE_is x.at_
  have s2 := spotE_is x.to_
  refine pc_of_awp Tryz.func9 rfl Tryz.ntmps9 (rs := [.tmp 2]) Tryz.results9 (by simp) fun w0 => ?_
  refine awp_seq ?_
  refine xa 2 ?_
  refine rg_q (q_box rfl (by exact .inr ⟨_, rfl⟩)) ?_
  refine rg_q (q_a rfl) ?_
  refine rs (awp_seq ?_)
  refine xa 8 ?_
  refine rg_q (q_fieldAddr fld39_0 rfl) (rg_q (q_load sz3 rfl rfl) (rg_q (q_neq rfl rfl) (rg_q (q_m rfl) ?_)))
  refine rg_g rfl rfl (fun hG => (q_fieldAddr fld39_0 rfl)) ?_
  refine rg_g rfl rfl (fun hG => (q_load sz3 rfl rfl)) ?_
  refine rg_g rfl rfl (fun hG => (q_neq rfl rfl)) ?_
  refine rg_pick rfl rfl rfl rfl rfl rfl ?_
  refine xc (awp_cond rfl (fun hc1 => ?_) (fun hc1 => ?_))
  ·
    (try simp only [nb, ne_eq] at hc1)
    have hz : flwE x = 15 := by unfold flwE; rw [if_pos (by omega)]
    refine awp_seq ?_
    refine xa 1 ?_
    refine rg_q (q_a rfl) ?_
    refine xc (awp_ret ?_)
    refine ⟨_, xk1, ?_⟩
    rw [hz]; rfl
  ·
    (try simp only [nb, ne_eq] at hc1)
    have hk : 0 ≤ x.kd ∧ x.kd ≤ 1 := by omega
    have hu : flwE x = if flwE0 x ≠ 0 then flwE0 x else if x.kd = 0 then poreE x else planeE x := by unfold flwE; rw [if_neg (fun h => h hk)]
    refine awp_skip ?_
    change Awp _ _ _ _ _
    refine awp_seq ?_
    refine awp_seq ?_
    refine xa 10 ?_
    refine rg_q (q_fieldAddr fld39_1 rfl) ?_
    refine rg_q (q_loadA (ds := [_, _]) sz37 rfl rfl rfl) ?_
    refine rg_q (q_call en31 (.cons rfl .nil) rfl (risSpot_p _)) ?_
    refine rg_q (q_not rfl) (rg_q (q_m rfl) ?_)
    refine rg_g rfl rfl (fun hG => (q_fieldAddr fld39_4 rfl)) ?_
    refine rg_g rfl rfl (fun hG => (q_load sz3 rfl rfl)) ?_
    refine rg_g rfl rfl (fun hG => (q_call en32 (.cons rfl .nil) rfl (risAmp_p _))) ?_
    refine rg_g rfl rfl (fun hG => (q_not rfl)) ?_
    refine rg_pick rfl rfl rfl rfl rfl rfl ?_
    refine xc (awp_cond rfl (fun hc3 => ?_) (fun hc3 => ?_))
    ·
      (try simp only [nb, ne_eq] at hc3)
      have hz0 : flwE0 x = 2 := by
        unfold flwE0
        rw [s1]
        rcases hc3 with q | q
        · rw [if_neg (by rcases q with q | q <;> rw [q] <;> simp)]; rfl
        · rw [q]
          by_cases q2 : (inR (-100000) x.at_.1 100000 && inR (-100000) x.at_.2 100000) = true
          · rw [if_pos q2]; rfl
          · rw [if_neg q2]; rfl
      have hz : flwE x = 2 := by rw [hu, hz0, if_pos (by decide)]
      refine awp_seq ?_
      refine xa 1 ?_
      refine rg_q (q_a rfl) ?_
      refine xc (awp_ret ?_)
      refine ⟨_, xk1, ?_⟩
      rw [hz]; rfl
    ·
      (try simp only [nb, ne_eq] at hc3)
      have hz0 : flwE0 x = 0 := by
        unfold flwE0
        rw [s1, hc3.2, if_pos (by simp_all)]; rfl
      have hu2 : flwE x = if x.kd = 0 then poreE x else planeE x := by rw [hu, hz0, if_neg (by simp)]
      refine awp_skip ?_
      change Awp _ _ _ _ _
      refine awp_seq ?_
      refine awp_seq ?_
      refine xa 3 ?_
      refine rg_q (q_fieldAddr fld39_0 rfl) (rg_q (q_load sz3 rfl rfl) (rg_q (q_eql rfl rfl) ?_))
      refine xc (awp_cond rfl (fun hc5 => ?_) (fun hc5 => ?_))
      ·
        (try simp only [nb, ne_eq] at hc5)
        rw [if_pos hc5] at hu2
        refine awp_seq ?_
        refine awp_seq ?_
        refine xa 14 ?_
        refine rg_q (q_fieldAddr fld39_2 rfl) ?_
        refine rg_q (q_loadA (ds := [_, _]) sz37 rfl rfl rfl) ?_
        refine rg_q (q_build (cs := [_, _]) pl37 zr37 rfl .nil trivial rfl) ?_
        refine rg_q (q_neqI (xs := [_, _]) (ys := [_, _]) eqi37 rfl rfl rfl rfl) ?_
        refine rg_q (q_m rfl) ?_
        refine rg_g rfl rfl (fun hG => (q_fieldAddr fld39_3 rfl)) ?_
        refine rg_g rfl rfl (fun hG => (q_load sz3 rfl rfl)) ?_
        refine rg_g rfl rfl (fun hG => (q_neq rfl rfl)) ?_
        refine rg_pick rfl rfl rfl rfl rfl rfl ?_
        refine rg_q (q_m rfl) ?_
        refine rg_g rfl rfl (fun hG => (q_fieldAddr fld39_5 rfl)) ?_
        refine rg_g rfl rfl (fun hG => (q_load sz3 rfl rfl)) ?_
        refine rg_g rfl rfl (fun hG => (q_neq rfl rfl)) ?_
        refine rg_pick rfl rfl rfl rfl rfl rfl ?_
        refine xc (awp_cond rfl (fun hc6 => ?_) (fun hc6 => ?_))
        ·
          (try simp only [nb, ne_eq] at hc6)
          have hz : flwE x = 3 := by
            rw [hu2]; unfold poreE whenI
            rw [if_pos]
            simp
            simp at hc6
            omega
          refine awp_seq ?_
          refine xa 1 ?_
          refine rg_q (q_a rfl) ?_
          refine xc (awp_ret ?_)
          refine ⟨_, xk1, ?_⟩
          rw [hz]; rfl
        ·
          (try simp only [nb, ne_eq] at hc6)
          have hz : flwE x = 0 := by
            rw [hu2]; unfold poreE whenI
            rw [if_neg]
            simp
            simp at hc6
            omega
          refine awp_skip ?_
          change Awp _ _ _ _ _
          refine awp_seq ?_
          refine xa 1 ?_
          refine rg_q (q_a rfl) ?_
          refine xc (awp_ret ?_)
          refine ⟨_, xk1, ?_⟩
          rw [hz]; rfl
      ·
        (try simp only [nb, ne_eq] at hc5)
        rw [if_neg hc5] at hu2
        refine awp_skip ?_
        change Awp _ _ _ _ _
        refine awp_seq ?_
        refine awp_seq ?_
        refine xa 16 ?_
        refine rg_q (q_fieldAddr fld39_2 rfl) ?_
        refine rg_q (q_loadA (ds := [_, _]) sz37 rfl rfl rfl) ?_
        refine rg_q (q_call en31 (.cons rfl .nil) rfl (risSpot_p _)) ?_
        refine rg_q (q_not rfl) (rg_q (q_m rfl) ?_)
        refine rg_g rfl rfl (fun hG => (q_fieldAddr fld39_3 rfl)) ?_
        refine rg_g rfl rfl (fun hG => (q_load sz3 rfl rfl)) ?_
        refine rg_g rfl rfl (fun hG => (q_call en33 (.cons rfl (.cons rfl (.cons rfl .nil))) rfl (within4_p _ _ _))) ?_
        refine rg_g rfl rfl (fun hG => (q_not rfl)) ?_
        refine rg_pick rfl rfl rfl rfl rfl rfl ?_
        refine rg_q (q_m rfl) ?_
        refine rg_g rfl rfl (fun hG => (q_fieldAddr fld39_5 rfl)) ?_
        refine rg_g rfl rfl (fun hG => (q_load sz3 rfl rfl)) ?_
        refine rg_g rfl rfl (fun hG => (q_call en32 (.cons rfl .nil) rfl (risAmp_p _))) ?_
        refine rg_g rfl rfl (fun hG => (q_not rfl)) ?_
        refine rg_pick rfl rfl rfl rfl rfl rfl ?_
        refine xc (awp_cond rfl (fun hc9 => ?_) (fun hc9 => ?_))
        ·
          (try simp only [nb, ne_eq] at hc9)
          have hz : flwE x = 2 := by
            rw [hu2]; unfold planeE; rw [s2]
            by_cases q : (inR (-100000) x.to_.1 100000 && inR (-100000) x.to_.2 100000) = true
            · have hb : (!inR 1 x.pc 20 || !inR (-1000) x.tp 1000) = true := by
                rcases hc9 with (q2 | q2) | q2
                · rw [Bool.and_eq_true] at q
                  rcases q2 with q2 | q2
                  · rw [q2] at q; cases q.1
                  · rw [q2] at q; cases q.2
                · rw [q2]; rfl
                · rw [q2]; simp
              rw [if_pos q, hb]; rfl
            · rw [if_neg q]; rfl
          refine awp_seq ?_
          refine xa 1 ?_
          refine rg_q (q_a rfl) ?_
          refine xc (awp_ret ?_)
          refine ⟨_, xk1, ?_⟩
          rw [hz]; rfl
        ·
          (try simp only [nb, ne_eq] at hc9)
          have hu3 : flwE x = whenI (decide ([x.to_.1, x.to_.2] = [x.at_.1, x.at_.2])) 11 := by
            rw [hu2]; unfold planeE
            obtain ⟨⟨⟨q0, q1⟩, q2⟩, q3⟩ := hc9
            rw [s2, q0, q1, q2, q3]
            show firstE [0, 0, _] = _
            unfold firstE; rw [if_pos rfl]
            unfold firstE; rw [if_pos rfl]
            unfold firstE
            split
            · rename_i q; rw [q]; rfl
            · rfl
          refine awp_skip ?_
          change Awp _ _ _ _ _
          refine awp_seq ?_
          refine awp_seq ?_
          refine xa 5 ?_
          refine rg_q (q_fieldAddr fld39_2 rfl) ?_
          refine rg_q (q_loadA (ds := [_, _]) sz37 rfl rfl rfl) ?_
          refine rg_q (q_fieldAddr fld39_1 rfl) ?_
          refine rg_q (q_loadA (ds := [_, _]) sz37 rfl rfl rfl) ?_
          refine rg_q (q_eqlI (xs := [_, _]) (ys := [_, _]) eqi37 rfl rfl rfl rfl) ?_
          refine xc (awp_cond rfl (fun hc11 => ?_) (fun hc11 => ?_))
          ·
            (try simp only [nb, ne_eq] at hc11)
            have hz : flwE x = 11 := by rw [hu3, decide_eq_true hc11]; rfl
            refine awp_seq ?_
            refine xa 1 ?_
            refine rg_q (q_a rfl) ?_
            refine xc (awp_ret ?_)
            refine ⟨_, xk1, ?_⟩
            rw [hz]; rfl
          ·
            (try simp only [nb, ne_eq] at hc11)
            have hz : flwE x = 0 := by rw [hu3, decide_eq_false hc11]; rfl
            refine awp_skip ?_
            change Awp _ _ _ _ _
            refine awp_seq ?_
            refine xa 1 ?_
            refine rg_q (q_a rfl) ?_
            refine xc (awp_ret ?_)
            refine ⟨_, xk1, ?_⟩
            rw [hz]; rfl
open Go
open Go

end Go.Proofs.YtkbdnkjjklbddaaGreatDoor.Am.M
-- mini
set_option maxRecDepth 100000
namespace Go.Proofs.YtkbdnkjjklbddaaGreatDoor.Am.M
open Go

theorem modeE_ref (m : Md) : (if firstE [speedE m.w, speedE m.m] ≠ 0 then firstE [speedE m.w, speedE m.m] else if (!inR 0 m.k 4 || !inR 2 m.t 20000) = true then 2 else 0) = modeE m := by
  unfold modeE mustI firstE
  by_cases h1 : speedE m.w = 0
  · simp only [firstE, h1, if_true]
    by_cases h2 : speedE m.m = 0
    · simp only [h2, if_true]
      cases inR 0 m.k 4 <;> cases inR 2 m.t 20000 <;> simp
    · simp [h2]
  · simp [firstE, h1]
theorem xspeedErr_p (v : Int) : PC Tryz.prog 125 [.v (.int .i64 (v))] (.v (.int .i64 (speedE v))) := by
 refine pc_of_awp Tryz.func125 rfl Tryz.ntmps125 (rs := [.tmp 2]) Tryz.results125 (by simp) fun w0 => ?_
 refine awp_seq ?_
 refine xa 1 ?_
 refine rg_q (q_a rfl) ?_
 refine rs (awp_seq ?_)
 refine xa 3 ?_
 refine rg_q (q_m rfl) ?_
 refine rg_q (q_call en33 (.cons rfl (.cons rfl (.cons rfl .nil))) rfl (within4_p _ _ _)) ?_
 refine rg_q (q_not rfl) ?_
 refine xc (awp_cond rfl (fun hc1 => ?_) (fun hc1 => ?_))
 ·
  (try simp only [nb, ne_eq] at hc1)
  have hz : speedE v = 2 := by unfold speedE mustI; rw [if_neg (by simp_all)]
  refine awp_seq ?_
  refine xa 1 ?_
  refine rg_q (q_a rfl) ?_
  refine xc (awp_ret ?_)
  refine ⟨_, xk1, ?_⟩
  rw [hz]; rfl
 ·
  (try simp only [nb, ne_eq] at hc1)
  have hz : speedE v = 0 := by unfold speedE mustI; rw [if_pos (by simp_all)]
  refine awp_skip ?_
  change Awp _ _ _ _ _
  refine awp_seq ?_
  refine xa 1 ?_
  refine rg_q (q_a rfl) ?_
  refine xc (awp_ret ?_)
  refine ⟨_, xk1, ?_⟩
  rw [hz]; rfl
theorem firstOf_p (l : List Int) : PC Tryz.prog 124 [.sl 1 (l.map iC)] (.v (.int .i64 (firstE l))) := by
 refine pc_of_awp Tryz.func124 rfl Tryz.ntmps124 (rs := [.tmp 2]) Tryz.results124 (by simp) fun w0 => ?_
 refine awp_seq ?_
 refine xa 1 ?_
 refine rg_q (q_a rfl) ?_
 refine rs (awp_seq ?_)
 refine xa 1 ?_
 refine rg_q (q_a rfl) ?_
 refine xc (awp_block ?_)
 refine awp_loopH [2, 3, 4, 5, 6, 7, 8, 9, 10, 11, 12, 13, 14, 15, 16, 17, 18] [] (α := Nat) (fun k => [(3, T.i (k : Int))]) (fun k => []) (fun k => k ≤ l.length ∧ firstE l = firstE (l.drop k)) (fun k => l.length - k) 0 ⟨Nat.zero_le _, rfl⟩ ?_ ?_
 · exact xh (ms := []) (by repeat (exact Out.refl _)) ⟨(by rfl), trivial⟩ trivial
 ·
  intro k ⟨hk, hf⟩
  refine awp_seq ?_
  refine awp_seq ?_
  refine xa 4 ?_
  refine rg_q (q_m rfl) (rg_q (q_move (x := .d (.sl _ _)) rfl) ?_)
  refine rg_q (q_len isl29 rfl (by exact len_map _ _)) ?_
  refine rg_q (q_lss rfl rfl) ?_
  refine xc (awp_len (t := 5) rfl (fun hl5 => ?_))
  (try simp only [List.length_map] at hl5)
  refine awp_cond rfl (fun hc2 => ?_) (fun hc2 => ?_)
  ·
   (try simp only [nb, ne_eq] at hc2)
   have hlt : k < l.length := by omega
   obtain ⟨y, hx⟩ : ∃ y, l[k]? = some y := ⟨_, List.getElem?_eq_getElem hlt⟩
   have hd : firstE (l.drop k) = if y = 0 then firstE (l.drop (k + 1)) else y := by
    rw [List.drop_eq_getElem_cons hlt, (List.getElem?_eq_some_iff.1 hx).2]; rfl
   refine awp_skip ?_
   change Awp _ _ _ _ _
   refine awp_seq ?_
   refine awp_block ?_
   refine awp_seq ?_
   refine xa 5 ?_
   refine rg_q (q_move (x := .d (.sl _ _)) rfl) (rg_q (q_m rfl) ?_)
   refine rg_q (q_indexAddr sl29 rfl rfl (by omega) (map_at (by omega) hx)) ?_
   refine rg_q (q_load sz3 rfl rfl) (rg_q (q_neq rfl rfl) ?_)
   refine xc (awp_cond rfl (fun hc4 => ?_) (fun hc4 => ?_))
   ·
    (try simp only [nb, ne_eq] at hc4)
    refine awp_seq ?_
    refine xa 5 ?_
    refine rg_q (q_move (x := .d (.sl _ _)) rfl) (rg_q (q_m rfl) ?_)
    refine rg_q (q_indexAddr sl29 rfl rfl (by omega) (map_at (by omega) hx)) ?_
    refine rg_q (q_load sz3 rfl rfl) (rg_q (q_a rfl) ?_)
    refine xc (awp_ret ?_)
    refine ⟨_, xk1, ?_⟩
    rw [hf, hd, if_neg (by omega)]; rfl
   ·
    (try simp only [nb, ne_eq] at hc4)
    refine awp_skip ?_
    change Awp _ _ _ _ _
    refine xa 3 ?_
    refine rg_q (q_m rfl) ?_
    refine rg_q (q_add rfl rfl xi) ?_
    refine rg_q (q_a rfl) ?_
    refine rn ?_
    refine ⟨k + 1, ⟨by omega, by rw [hf, hd, if_pos (by omega)]⟩, by omega, ?_⟩
    exact xh (ms := []) (by repeat (first | exact Out.head rfl rfl | (refine Out.put ?_ rfl))) ⟨(by rfl), trivial⟩ trivial
  ·
   (try simp only [nb, ne_eq] at hc2)
   refine awp_exit ?_
   change Awp _ _ _ _ _
   refine awp_seq ?_
   refine xa 1 ?_
   refine rg_q (q_a rfl) ?_
   refine xc (awp_ret ?_)
   refine ⟨_, xk1, ?_⟩
   rw [hf, List.drop_of_length_le (by omega)]; rfl
theorem xcheckMode_p (m : Md) : PC Tryz.prog 101 [.agg (mdC m)] (.v (.int .i64 (modeE m))) := by
 have hr := modeE_ref m
 refine pc_of_awp Tryz.func101 rfl Tryz.ntmps101 (rs := [.tmp 2]) Tryz.results101 (by simp) fun w0 => ?_
 refine awp_seq ?_
 refine xa 2 ?_
 refine rg_q (q_box rfl (by exact .inr ⟨_, rfl⟩)) ?_
 refine rg_q (q_a rfl) ?_
 refine rs (awp_seq ?_)
 refine xa 9 ?_
 refine rg_q (q_fieldAddr fld24_0 rfl) (rg_q (q_load sz3 rfl rfl) ?_)
 refine rg_q (q_call en125 (.cons rfl .nil) rfl (xspeedErr_p _)) ?_
 refine rg_q (q_fieldAddr fld24_1 rfl) (rg_q (q_load sz3 rfl rfl) ?_)
 refine rg_q (q_call en125 (.cons rfl .nil) rfl (xspeedErr_p _)) ?_
 refine rg_q (q_buildSlice sl29 zr3 rfl rfl (by decide) (.cons rfl (by exact .inl rfl) (.cons rfl (by exact .inl rfl) .nil)) ⟨rfl, rfl, rfl, rfl, trivial⟩ rfl (by decide) rfl) ?_
 refine rg_q (q_call en124 (.cons rfl .nil) rfl (firstOf_p [_, _])) ?_
 refine rg_q (q_a rfl) ?_
 refine rs (xa 2 ?_)
 refine rg_q (q_m rfl) (rg_q (q_neq rfl rfl) ?_)
 refine xc (awp_cond rfl (fun hc2 => ?_) (fun hc2 => ?_))
 ·
  (try simp only [nb, ne_eq] at hc2)
  rw [if_pos hc2] at hr
  refine awp_seq ?_
  refine xa 2 ?_
  refine rg_q (q_m rfl) (rg_q (q_a rfl) ?_)
  refine xc (awp_ret ?_)
  refine ⟨_, xk1, ?_⟩
  rw [← hr]; rfl
 ·
  (try simp only [nb, ne_eq] at hc2)
  rw [if_neg (fun h => h hc2)] at hr
  refine awp_skip ?_
  change Awp _ _ _ _ _
  refine awp_seq ?_
  refine awp_seq ?_
  refine xa 10 ?_
  refine rg_q (q_fieldAddr fld24_2 rfl) (rg_q (q_load sz3 rfl rfl) ?_)
  refine rg_q (q_call en33 (.cons rfl (.cons rfl (.cons rfl .nil))) rfl (within4_p _ _ _)) ?_
  refine rg_q (q_not rfl) (rg_q (q_m rfl) ?_)
  refine rg_g rfl rfl (fun hG => (q_fieldAddr fld24_3 rfl)) ?_
  refine rg_g rfl rfl (fun hG => (q_load sz3 rfl rfl)) ?_
  refine rg_g rfl rfl (fun hG => (q_call en33 (.cons rfl (.cons rfl (.cons rfl .nil))) rfl (within4_p _ _ _))) ?_
  refine rg_g rfl rfl (fun hG => (q_not rfl)) ?_
  refine rg_pick rfl rfl rfl rfl rfl rfl ?_
  refine xc (awp_cond rfl (fun hc4 => ?_) (fun hc4 => ?_))
  ·
   (try simp only [nb, ne_eq] at hc4)
   rw [if_pos (by simp_all)] at hr
   refine awp_seq ?_
   refine xa 1 ?_
   refine rg_q (q_a rfl) ?_
   refine xc (awp_ret ?_)
   refine ⟨_, xk1, ?_⟩
   rw [← hr]; rfl
  ·
   (try simp only [nb, ne_eq] at hc4)
   rw [if_neg (by simp_all)] at hr
   refine awp_skip ?_
   change Awp _ _ _ _ _
   refine awp_seq ?_
   refine xa 1 ?_
   refine rg_q (q_a rfl) ?_
   refine xc (awp_ret ?_)
   refine ⟨_, xk1, ?_⟩
   rw [← hr]; rfl

end Go.Proofs.YtkbdnkjjklbddaaGreatDoor.Am.M
-- mini
set_option maxRecDepth 100000
namespace Go.Proofs.YtkbdnkjjklbddaaGreatDoor.Am.M
open Go
theorem rcheckSampling_p (s : Int × Int) : PC Tryz.prog 102 [.agg (shC s)] (.v (.int .i64 (sampE s))) := by
 refine pc_of_awp Tryz.func102 rfl Tryz.ntmps102 (rs := [.tmp 2]) Tryz.results102 (by simp) fun w0 => ?_
 refine awp_seq ?_
 refine xa 2 ?_
 refine rg_q (q_box rfl (by exact .inr ⟨_, rfl⟩)) ?_
 refine rg_q (q_a rfl) ?_
 refine rs (awp_seq ?_)
 refine xa 10 ?_
 refine rg_q (q_fieldAddr fld26_0 rfl) (rg_q (q_load sz3 rfl rfl) ?_)
 refine rg_q (q_call en33 (.cons rfl (.cons rfl (.cons rfl .nil))) rfl (within4_p _ _ _)) ?_
 refine rg_q (q_not rfl) (rg_q (q_m rfl) ?_)
 refine rg_g rfl rfl (fun hG => (q_fieldAddr fld26_1 rfl)) ?_
 refine rg_g rfl rfl (fun hG => (q_load sz3 rfl rfl)) ?_
 refine rg_g rfl rfl (fun hG => (q_call en33 (.cons rfl (.cons rfl (.cons rfl .nil))) rfl (within4_p _ _ _))) ?_
 refine rg_g rfl rfl (fun hG => (q_not rfl)) ?_
 refine rg_pick rfl rfl rfl rfl rfl rfl ?_
 refine xc (awp_cond rfl (fun hc1 => ?_) (fun hc1 => ?_))
 ·
  (try simp only [nb, ne_eq] at hc1)
  have hz : sampE s = 2 := by unfold sampE; rw [if_neg (by intro h; simp_all)]
  refine awp_seq ?_
  refine xa 1 ?_
  refine rg_q (q_a rfl) ?_
  refine xc (awp_ret ?_)
  refine ⟨_, xk1, ?_⟩
  rw [hz]; rfl
 ·
  (try simp only [nb, ne_eq] at hc1)
  have hz : sampE s = 0 := by unfold sampE; rw [if_pos (by simp_all)]
  refine awp_skip ?_
  change Awp _ _ _ _ _
  refine awp_seq ?_
  refine xa 1 ?_
  refine rg_q (q_a rfl) ?_
  refine xc (awp_ret ?_)
  refine ⟨_, xk1, ?_⟩
  rw [hz]; rfl
theorem inPlate_p (a : Arr) (z : Int) (h1 : 2 ≤ a.ou.t) (h2 : a.ou.t ≤ 20000) : PC Tryz.prog 73 [.agg (arrC a), .v (.int .i64 (z))] (.v (.bool (inR 1 z (a.ou.t - 1)))) := by
 refine pc_of_awp Tryz.func73 rfl Tryz.ntmps73 (rs := [.tmp 4]) Tryz.results73 (by simp) fun w0 => ?_
 refine awp_seq ?_
 refine xa 2 ?_
 refine rg_q (q_box rfl (by exact .inr ⟨_, rfl⟩)) ?_
 refine rg_q (q_a rfl) ?_
 refine rs (xa 7 ?_)
 refine rg_q (q_m rfl) (rg_q (q_fieldAddr fld28_1 rfl) (rg_q (q_fieldAddr fld24_3 rfl) (rg_q (q_load sz3 rfl rfl) ?_)))
 refine rg_q (q_sub rfl rfl xi) ?_
 refine rg_q (q_call en33 (.cons rfl (.cons rfl (.cons rfl .nil))) rfl (within4_p _ _ _)) ?_
 refine rg_q (q_a rfl) ?_
 refine xc (awp_ret ?_)
 refine ⟨_, xk1, ?_⟩
 rfl

theorem elE_is (p : Int × Int) : elE p = if (inR (-100000) p.1 100000 && inR (-100000) p.2 100000) = true then (if 0 ≤ p.2 then 15 else 0) else 2 := by
  unfold elE
  rw [spotE_is p]
  by_cases h : (inR (-100000) p.1 100000 && inR (-100000) p.2 100000) = true
  · rw [if_pos h, if_pos h]
    unfold firstE; rw [if_pos rfl]
    unfold firstE whenI
    by_cases h2 : 0 ≤ p.2
    · simp [firstE, h2]
    · simp [firstE, h2]
  · rw [if_neg h, if_neg h]; rfl
theorem first4 (a b c d : Int) : firstE [a, b, c, d] = if a ≠ 0 then a else if b ≠ 0 then b else if c ≠ 0 then c else d := by
  unfold firstE
  by_cases h1 : a = 0
  · rw [if_pos h1, if_neg (fun q => q h1)]
    unfold firstE
    by_cases h2 : b = 0
    · rw [if_pos h2, if_neg (fun q => q h2)]
      unfold firstE
      by_cases h3 : c = 0
      · rw [if_pos h3, if_neg (fun q => q h3)]
        unfold firstE
        by_cases h4 : d = 0
        · rw [if_pos h4, h4]; rfl
        · rw [if_neg h4]
      · rw [if_neg h3, if_pos h3]
    · rw [if_neg h2, if_pos h2]
  · rw [if_neg h1, if_pos h1]
theorem rcheckArr_p (a : Arr) : PC Tryz.prog 71 [.agg (arrC a)] (.tup [.v (.int .i64 ((ckArr a).1)), .v (.int .i64 ((ckArr a).2))]) := by
 have hu : ckArr a = if a.el.length = 0 then (0, 10) else if 16 < a.el.length then (0, 8) else if (ckEls 0 a.el).2 ≠ 0 then ckEls 0 a.el else (0, arrE0 a) := rfl
 have h4 : arrE0 a = if modeE a.ou ≠ 0 then modeE a.ou else if modeE a.ba ≠ 0 then modeE a.ba else if whenI (decide (a.ou.t ≠ a.ba.t)) 23 ≠ 0 then whenI (decide (a.ou.t ≠ a.ba.t)) 23 else sampE a.ts := first4 _ _ _ _
 refine pc_of_awp Tryz.func71 rfl Tryz.ntmps71 (rs := [.tmp 2, .tmp 3]) Tryz.results71 (by simp) fun w0 => ?_
 refine awp_seq ?_
 refine xa 3 ?_
 refine rg_q (q_box rfl (by exact .inr ⟨_, rfl⟩)) ?_
 refine rg_q (q_a rfl) (rg_q (q_a rfl) ?_)
 refine rs (awp_seq ?_)
 refine xa 4 ?_
 refine rg_q (q_fieldAddr fld28_0 rfl) (rg_q (q_load sz22 rfl rfl) ?_)
 refine rg_q (q_len isl22 rfl (by exact len_map _ _)) ?_
 refine rg_q (q_eql rfl rfl) ?_
 refine xc (awp_len (t := 8) rfl (fun hl8 => ?_))
 (try simp only [List.length_map] at hl8)
 refine awp_cond rfl (fun hc1 => ?_) (fun hc1 => ?_)
 ·
  (try simp only [nb, ne_eq] at hc1)
  rw [if_pos (by omega)] at hu
  refine awp_seq ?_
  refine xa 2 ?_
  refine rg_q (q_a rfl) (rg_q (q_a rfl) ?_)
  refine xc (awp_ret ?_)
  refine ⟨_, xk2, ?_⟩
  rw [hu]; rfl
 ·
  (try simp only [nb, ne_eq] at hc1)
  rw [if_neg (by omega)] at hu
  refine awp_skip ?_
  change Awp _ _ _ _ _
  refine awp_seq ?_
  refine awp_seq ?_
  refine xa 4 ?_
  refine rg_q (q_fieldAddr fld28_0 rfl) (rg_q (q_load sz22 rfl rfl) ?_)
  refine rg_q (q_len isl22 rfl (by exact len_map _ _)) ?_
  refine rg_q (q_gtr rfl rfl) ?_
  refine xc (awp_len (t := 12) rfl (fun hl12 => ?_))
  (try simp only [List.length_map] at hl12)
  refine awp_cond rfl (fun hc3 => ?_) (fun hc3 => ?_)
  ·
   (try simp only [nb, ne_eq] at hc3)
   rw [if_pos (by omega)] at hu
   refine awp_seq ?_
   refine xa 2 ?_
   refine rg_q (q_a rfl) (rg_q (q_a rfl) ?_)
   refine xc (awp_ret ?_)
   refine ⟨_, xk2, ?_⟩
   rw [hu]; rfl
  ·
   (try simp only [nb, ne_eq] at hc3)
   rw [if_neg (by omega)] at hu
   refine awp_skip ?_
   change Awp _ _ _ _ _
   refine awp_seq ?_
   refine awp_seq ?_
   refine xa 1 ?_
   refine rg_q (q_a rfl) ?_
   refine xc (awp_block ?_)
   refine awp_loopH [2, 3, 4, 15, 16, 17, 18, 19, 20, 21, 22, 23, 24, 25, 26, 27, 28, 29, 30, 31, 32, 33, 34, 35, 36, 37] [] (α := Nat) (fun k => [(4, T.i (k : Int))]) (fun k => []) (fun k => k ≤ a.el.length ∧ ckEls 0 a.el = ckEls k (a.el.drop k)) (fun k => a.el.length - k) 0 ⟨Nat.zero_le _, rfl⟩ ?_ ?_
   · exact xh (ms := []) (by repeat (exact Out.refl _)) ⟨(by rfl), trivial⟩ trivial
   ·
    intro k ⟨hk, hf⟩
    refine awp_seq ?_
    refine awp_seq ?_
    refine xa 5 ?_
    refine rg_q (q_m rfl) (rg_q (q_fieldAddr fld28_0 rfl) (rg_q (q_load sz22 rfl rfl) ?_))
    refine rg_q (q_len isl22 rfl (by exact len_map _ _)) ?_
    refine rg_q (q_lss rfl rfl) ?_
    refine xc (awp_len (t := 17) rfl (fun hl17 => ?_))
    (try simp only [List.length_map] at hl17)
    refine awp_cond rfl (fun hc6 => ?_) (fun hc6 => ?_)
    ·
     (try simp only [nb, ne_eq] at hc6)
     have hlt : k < a.el.length := by omega
     obtain ⟨x, hx⟩ : ∃ x, a.el[k]? = some x := ⟨_, List.getElem?_eq_getElem hlt⟩
     have hd := ckEls_at hx
     have he := elE_is x
     refine awp_skip ?_
     change Awp _ _ _ _ _
     refine awp_seq ?_
     refine awp_block ?_
     refine awp_seq ?_
     refine awp_seq ?_
     refine xa 7 ?_
     refine rg_q (q_fieldAddr fld28_0 rfl) (rg_q (q_load sz22 rfl rfl) (rg_q (q_m rfl) ?_))
     refine rg_q (q_indexAddr sl22 rfl rfl (by omega) (map_at (by omega) hx)) ?_
     refine rg_q (q_loadA (ds := [_, _]) sz37 rfl rfl rfl) ?_
     refine rg_q (q_call en31 (.cons rfl .nil) rfl (risSpot_p _)) ?_
     refine rg_q (q_not rfl) ?_
     refine xc (awp_cond rfl (fun hc8 => ?_) (fun hc8 => ?_))
     ·
      (try simp only [nb, ne_eq] at hc8)
      rw [if_neg (by rcases hc8 with q | q <;> simp [q])] at he
      have hz : ckEls 0 a.el = ((k : Int), 2) := by rw [hf, hd, he]; rfl
      rw [hz] at hu
      refine awp_seq ?_
      refine xa 3 ?_
      refine rg_q (q_m rfl) (rg_q (q_a rfl) (rg_q (q_a rfl) ?_))
      refine xc (awp_ret ?_)
      refine ⟨_, xk2, ?_⟩
      rw [hu]; rfl
     ·
      (try simp only [nb, ne_eq] at hc8)
      rw [if_pos (by simp [hc8.1, hc8.2])] at he
      refine awp_skip ?_
      change Awp _ _ _ _ _
      refine awp_seq ?_
      refine xa 7 ?_
      refine rg_q (q_fieldAddr fld28_0 rfl) (rg_q (q_load sz22 rfl rfl) (rg_q (q_m rfl) ?_))
      refine rg_q (q_indexAddr sl22 rfl rfl (by omega) (map_at (by omega) hx)) ?_
      refine rg_q (q_fieldAddr fld37_1 rfl) (rg_q (q_load sz3 rfl rfl) (rg_q (q_geq rfl rfl) ?_))
      refine xc (awp_cond rfl (fun hc10 => ?_) (fun hc10 => ?_))
      ·
       (try simp only [nb, ne_eq] at hc10)
       rw [if_pos hc10] at he
       have hz : ckEls 0 a.el = ((k : Int), 15) := by rw [hf, hd, he]; rfl
       rw [hz] at hu
       refine awp_seq ?_
       refine xa 3 ?_
       refine rg_q (q_m rfl) (rg_q (q_a rfl) (rg_q (q_a rfl) ?_))
       refine xc (awp_ret ?_)
       refine ⟨_, xk2, ?_⟩
       rw [hu]; rfl
      ·
       (try simp only [nb, ne_eq] at hc10)
       rw [if_neg (by omega)] at he
       refine awp_skip ?_
       change Awp _ _ _ _ _
       refine xa 3 ?_
       refine rg_q (q_m rfl) ?_
       refine rg_q (q_add rfl rfl xi) ?_
       refine rg_q (q_a rfl) ?_
       refine rn ?_
       refine ⟨k + 1, ⟨by omega, by rw [hf, hd, if_neg (by rw [he]; simp)]⟩, by omega, ?_⟩
       exact xh (ms := []) (by repeat (first | exact Out.head rfl rfl | (refine Out.put ?_ rfl))) ⟨(by rfl), trivial⟩ trivial
    ·
     (try simp only [nb, ne_eq] at hc6)
     have hk0 : ckEls 0 a.el = (0, 0) := by rw [hf, List.drop_of_length_le (by omega)]; rfl
     rw [hk0, if_neg (by decide)] at hu
     refine awp_exit ?_
     change Awp _ _ _ _ _
     refine awp_seq ?_
     refine awp_seq ?_
     refine xa 4 ?_
     refine rg_q (q_fieldAddr fld28_1 rfl) ?_
     refine rg_q (q_loadA (ds := [_, _, _, _]) sz24 rfl rfl rfl) ?_
     refine rg_q (q_call en101 (.cons rfl .nil) rfl (xcheckMode_p a.ou)) ?_
     refine rg_q (q_a rfl) ?_
     refine rs (xa 2 ?_)
     refine rg_q (q_m rfl) (rg_q (q_neq rfl rfl) ?_)
     refine xc (awp_cond rfl (fun hc13 => ?_) (fun hc13 => ?_))
     ·
      (try simp only [nb, ne_eq] at hc13)
      rw [if_pos hc13] at h4
      refine awp_seq ?_
      refine xa 3 ?_
      refine rg_q (q_m rfl) (rg_q (q_a rfl) (rg_q (q_a rfl) ?_))
      refine xc (awp_ret ?_)
      refine ⟨_, xk2, ?_⟩
      rw [hu, h4]; rfl
     ·
      (try simp only [nb, ne_eq] at hc13)
      rw [if_neg (fun q => q hc13)] at h4
      refine awp_skip ?_
      change Awp _ _ _ _ _
      refine awp_seq ?_
      refine awp_seq ?_
      refine xa 4 ?_
      refine rg_q (q_fieldAddr fld28_2 rfl) ?_
      refine rg_q (q_loadA (ds := [_, _, _, _]) sz24 rfl rfl rfl) ?_
      refine rg_q (q_call en101 (.cons rfl .nil) rfl (xcheckMode_p a.ba)) ?_
      refine rg_q (q_a rfl) ?_
      refine rs (xa 2 ?_)
      refine rg_q (q_m rfl) (rg_q (q_neq rfl rfl) ?_)
      refine xc (awp_cond rfl (fun hc16 => ?_) (fun hc16 => ?_))
      ·
       (try simp only [nb, ne_eq] at hc16)
       rw [if_pos hc16] at h4
       refine awp_seq ?_
       refine xa 3 ?_
       refine rg_q (q_m rfl) (rg_q (q_a rfl) (rg_q (q_a rfl) ?_))
       refine xc (awp_ret ?_)
       refine ⟨_, xk2, ?_⟩
       rw [hu, h4]; rfl
      ·
       (try simp only [nb, ne_eq] at hc16)
       rw [if_neg (fun q => q hc16)] at h4
       refine awp_skip ?_
       change Awp _ _ _ _ _
       refine awp_seq ?_
       refine awp_seq ?_
       refine xa 7 ?_
       refine rg_q (q_fieldAddr fld28_1 rfl) (rg_q (q_fieldAddr fld24_3 rfl) (rg_q (q_load sz3 rfl rfl) (rg_q (q_fieldAddr fld28_2 rfl) (rg_q (q_fieldAddr fld24_3 rfl) (rg_q (q_load sz3 rfl rfl) ?_)))))
       refine rg_q (q_neq rfl rfl) ?_
       refine xc (awp_cond rfl (fun hc18 => ?_) (fun hc18 => ?_))
       ·
        (try simp only [nb, ne_eq] at hc18)
        have hw : whenI (decide (a.ou.t ≠ a.ba.t)) 23 = 23 := by unfold whenI; rw [if_pos (decide_eq_true hc18)]
        rw [hw, if_pos (by decide)] at h4
        refine awp_seq ?_
        refine xa 2 ?_
        refine rg_q (q_a rfl) (rg_q (q_a rfl) ?_)
        refine xc (awp_ret ?_)
        refine ⟨_, xk2, ?_⟩
        rw [hu, h4]; rfl
       ·
        (try simp only [nb, ne_eq] at hc18)
        have hw : whenI (decide (a.ou.t ≠ a.ba.t)) 23 = 0 := by unfold whenI; rw [if_neg (by simpa using hc18)]
        rw [hw, if_neg (by decide)] at h4
        refine awp_skip ?_
        change Awp _ _ _ _ _
        refine awp_seq ?_
        refine xa 5 ?_
        refine rg_q (q_fieldAddr fld28_3 rfl) ?_
        refine rg_q (q_loadA (ds := [_, _]) sz26 rfl rfl rfl) ?_
        refine rg_q (q_call en102 (.cons rfl .nil) rfl (rcheckSampling_p _)) ?_
        refine rg_q (q_a rfl) (rg_q (q_a rfl) ?_)
        refine xc (awp_ret ?_)
        refine ⟨_, xk2, ?_⟩
        rw [hu, h4]; rfl

theorem plateE_is (z t : Int) : plateE z t = if inR 1 z (t - 1) = true then 0 else 22 := rfl
theorem flE_is (t : Int) (x : Flw) : flE t x = if flwE x ≠ 0 then flwE x else if inR 1 x.at_.2 (t - 1) = false ∨ (x.kd = 1 ∧ inR 1 x.to_.2 (t - 1) = false) then 22 else 0 := by
  unfold flE
  by_cases h0 : flwE x = 0
  · have hr : ∀ a b : Int, (if flwE x ≠ 0 then a else b) = b := fun a b => if_neg (fun q => q h0)
    rw [hr]
    by_cases h1 : inR 1 x.at_.2 (t - 1) = true
    · have e : firstE [flwE x, plateE x.at_.2 t] = 0 := by
        unfold firstE; rw [if_pos h0]
        unfold firstE; rw [if_pos (by rw [plateE_is, if_pos h1])]; rfl
      by_cases hk : x.kd = 1
      · rw [if_pos ⟨e, hk⟩, plateE_is]
        by_cases h2 : inR 1 x.to_.2 (t - 1) = true
        · rw [if_pos h2, if_neg]
          rintro (q | ⟨_, q⟩)
          · rw [h1] at q; cases q
          · rw [h2] at q; cases q
        · rw [if_neg h2, if_pos (.inr ⟨hk, by simpa using h2⟩)]
      · rw [if_neg (fun q => hk q.2), e, if_neg]
        rintro (q | ⟨q, _⟩)
        · rw [h1] at q; cases q
        · exact hk q
    · have e : firstE [flwE x, plateE x.at_.2 t] = 22 := by
        unfold firstE; rw [if_pos h0]
        unfold firstE; rw [plateE_is, if_neg h1]; rfl
      rw [if_neg (fun q => by rw [e] at q; exact absurd q.1 (by decide)), e, if_pos (.inl (by simpa using h1))]
  · have e : firstE [flwE x, plateE x.at_.2 t] = flwE x := by unfold firstE; rw [if_neg h0]
    have hr : ∀ a b : Int, (if flwE x ≠ 0 then a else b) = a := fun a b => if_pos h0
    rw [hr, if_neg (fun q => h0 (e ▸ q.1)), e]
theorem rcheckSpc_p (s : Spc) : PC Tryz.prog 41 [.agg (spcC s)] (.tup [.v (.int .i64 ((ckSpc s).1)), .v (.int .i64 ((ckSpc s).2))]) := by
  have hu : ckSpc s = if (ckArr s.ar).2 ≠ 0 then ckArr s.ar else if spcE0 s ≠ 0 then (0, spcE0 s) else ckFls s.ar.ou.t 0 s.fl := rfl
  have h2 : spcE0 s = if plsE s.pl ≠ 0 then plsE s.pl else whenI (decide (10 < (s.fl.length : Int))) 8 := by
    unfold spcE0 firstE
    by_cases q : plsE s.pl = 0
    · rw [if_pos q, if_neg (fun h => h q)]
      unfold firstE
      split
      · rename_i q2; rw [q2]; rfl
      · rfl
    · rw [if_neg q, if_pos q]
  refine pc_of_awp Tryz.func41 rfl Tryz.ntmps41 (rs := [.tmp 2, .tmp 3]) Tryz.results41 (by simp) fun w0 => ?_
  refine awp_seq ?_
  refine xa 3 ?_
  refine rg_q (q_box rfl (by exact .inr ⟨_, rfl⟩)) ?_
  refine rg_q (q_a rfl) (rg_q (q_a rfl) ?_)
  refine rs (awp_seq ?_)
  refine xa 8 ?_
  refine rg_q (q_fieldAddr fld32_0 rfl) ?_
  refine rg_q (q_loadA (ds := [_, _, _, _, _, _, _, _, _, _, _]) sz28 rfl rfl rfl) ?_
  refine rg_q (q_call en71 (.cons rfl .nil) rfl (rcheckArr_p s.ar)) ?_
  refine rg_q (q_move (x := .d (.tup _)) rfl) (rg_q (q_extract rfl rfl) (rg_q (q_extract rfl rfl) (rg_q (q_a rfl) (rg_q (q_a rfl) ?_))))
  refine rs (xa 2 ?_)
  refine rg_q (q_m rfl) (rg_q (q_neq rfl rfl) ?_)
  refine xc (awp_cond rfl (fun hc2 => ?_) (fun hc2 => ?_))
  ·
    (try simp only [nb, ne_eq] at hc2)
    rw [if_pos hc2] at hu
    refine awp_seq ?_
    refine xa 4 ?_
    refine rg_q (q_m rfl) (rg_q (q_m rfl) (rg_q (q_a rfl) (rg_q (q_a rfl) ?_)))
    refine xc (awp_ret ?_)
    refine ⟨_, xk2, ?_⟩
    rw [hu]; rfl
  ·
    (try simp only [nb, ne_eq] at hc2)
    have hck : (ckArr s.ar).2 = 0 := by simpa using hc2
    have hok := (ckArr_ok hck).1
    have ht1 := hok.ou.t1
    have ht2 := hok.ou.t2
    rw [if_neg (fun q => q hck)] at hu
    refine awp_skip ?_
    change Awp _ _ _ _ _
    refine awp_seq ?_
    refine awp_seq ?_
    refine xa 4 ?_
    refine rg_q (q_fieldAddr fld32_1 rfl) (rg_q (q_load sz29 rfl rfl) ?_)
    refine rg_q (q_call en72 (.cons rfl .nil) rfl (rpulseErr_p _)) ?_
    refine rg_q (q_a rfl) ?_
    refine rs (xa 2 ?_)
    refine rg_q (q_m rfl) (rg_q (q_neq rfl rfl) ?_)
    refine xc (awp_cond rfl (fun hc5 => ?_) (fun hc5 => ?_))
    ·
      (try simp only [nb, ne_eq] at hc5)
      rw [if_pos hc5] at h2
      rw [h2, if_pos hc5] at hu
      refine awp_seq ?_
      refine xa 3 ?_
      refine rg_q (q_m rfl) (rg_q (q_a rfl) (rg_q (q_a rfl) ?_))
      refine xc (awp_ret ?_)
      refine ⟨_, xk2, ?_⟩
      rw [hu]; rfl
    ·
      (try simp only [nb, ne_eq] at hc5)
      rw [if_neg (fun q => q hc5)] at h2
      refine awp_skip ?_
      change Awp _ _ _ _ _
      refine awp_seq ?_
      refine awp_seq ?_
      refine xa 4 ?_
      refine rg_q (q_fieldAddr fld32_2 rfl) (rg_q (q_load sz30 rfl rfl) ?_)
      refine rg_q (q_len isl30 rfl (by exact len_map _ _)) ?_
      refine rg_q (q_gtr rfl rfl) ?_
      refine xc (awp_len (t := 27) rfl (fun hl27 => ?_))
      (try simp only [List.length_map] at hl27)
      refine awp_cond rfl (fun hc7 => ?_) (fun hc7 => ?_)
      ·
        (try simp only [nb, ne_eq] at hc7)
        have hw : whenI (decide (10 < (s.fl.length : Int))) 8 = 8 := by unfold whenI; rw [if_pos (decide_eq_true hc7)]
        rw [h2, hw, if_pos (by decide)] at hu
        refine awp_seq ?_
        refine xa 2 ?_
        refine rg_q (q_a rfl) (rg_q (q_a rfl) ?_)
        refine xc (awp_ret ?_)
        refine ⟨_, xk2, ?_⟩
        rw [hu]; rfl
      ·
        (try simp only [nb, ne_eq] at hc7)
        have hw : whenI (decide (10 < (s.fl.length : Int))) 8 = 0 := by unfold whenI; rw [if_neg (by simpa using hc7)]
        rw [h2, hw, if_neg (by decide)] at hu
        refine awp_skip ?_
        change Awp _ _ _ _ _
        refine awp_seq ?_
        refine awp_seq ?_
        refine xa 1 ?_
        refine rg_q (q_a rfl) ?_
        refine xc (awp_block ?_)
        refine awp_loopH [2, 3, 7, 8, 9, 30, 31, 32, 33, 34, 35, 36, 37, 38, 39, 40, 41, 42, 43, 44, 45, 46, 47, 48, 49, 50, 51, 52, 53, 54, 55, 56, 57, 58, 59, 60, 61, 62, 63, 64, 65, 66, 67, 68, 69] [] (α := Nat) (fun k => [(7, T.i (k : Int))]) (fun k => []) (fun k => k ≤ s.fl.length ∧ ckFls s.ar.ou.t 0 s.fl = ckFls s.ar.ou.t k (s.fl.drop k)) (fun k => s.fl.length - k) 0 ⟨Nat.zero_le _, rfl⟩ ?_ ?_
        · exact xh (ms := []) (by repeat (exact Out.refl _)) ⟨(by rfl), trivial⟩ trivial
        ·
          intro k ⟨hk, hf⟩
          refine awp_seq ?_
          refine awp_seq ?_
          refine xa 5 ?_
          refine rg_q (q_m rfl) (rg_q (q_fieldAddr fld32_2 rfl) (rg_q (q_load sz30 rfl rfl) ?_))
          refine rg_q (q_len isl30 rfl (by exact len_map _ _)) ?_
          refine rg_q (q_lss rfl rfl) ?_
          refine xc (awp_len (t := 32) rfl (fun hl32 => ?_))
          (try simp only [List.length_map] at hl32)
          refine awp_cond rfl (fun hc10 => ?_) (fun hc10 => ?_)
          ·
            (try simp only [nb, ne_eq] at hc10)
            have hlt : k < s.fl.length := by omega
            obtain ⟨x, hx⟩ : ∃ x, s.fl[k]? = some x := ⟨_, List.getElem?_eq_getElem hlt⟩
            have hd := ckFls_at (t := s.ar.ou.t) hx
            have he := flE_is s.ar.ou.t x
            refine awp_skip ?_
            change Awp _ _ _ _ _
            refine awp_seq ?_
            refine awp_block ?_
            refine awp_seq ?_
            refine xa 5 ?_
            refine rg_q (q_fieldAddr fld32_2 rfl) (rg_q (q_load sz30 rfl rfl) (rg_q (q_m rfl) ?_))
            refine rg_q (q_indexAddr sl30 rfl rfl (by omega) (map_at (by omega) hx)) ?_
            refine rg_q (q_loadA (ds := [_, _, _, _, _, _, _, _]) sz39 rfl rfl rfl) ?_
            refine rg_nil ?_
            refine aops_alloc zr39 rfl rfl rfl ?_
            refine aops_store sz39 rfl rfl (by exact .inr ⟨_, rfl⟩) rfl rfl (by decide) rfl ?_
            refine aops_nil (xq (awp_seq ?_))
            refine xa 3 ?_
            refine rg_q (q_load_refA (ds := [_, _, _, _, _, _, _, _]) sz39 rfl rfl rfl rfl) ?_
            refine rg_q (q_call en9 (.cons rfl .nil) rfl (rcheckFlaw_p x)) ?_
            refine rg_q (q_a rfl) ?_
            refine rs (xa 2 ?_)
            refine rg_q (q_m rfl) (rg_q (q_neq rfl rfl) ?_)
            refine xc (awp_cond rfl (fun hc14 => ?_) (fun hc14 => ?_))
            ·
              (try simp only [nb, ne_eq] at hc14)
              rw [if_pos hc14] at he
              refine awp_seq ?_
              refine xa 4 ?_
              refine rg_q (q_m rfl) (rg_q (q_m rfl) (rg_q (q_a rfl) (rg_q (q_a rfl) ?_)))
              refine xc (awp_ret ?_)
              refine ⟨_, xk2, ?_⟩
              rw [hu, hf, hd, he, if_pos hc14]; rfl
            ·
              (try simp only [nb, ne_eq] at hc14)
              rw [if_neg (fun q => q hc14)] at he
              refine awp_skip ?_
              change Awp _ _ _ _ _
              refine awp_seq ?_
              refine xa 21 ?_
              refine rg_q (q_fieldAddr fld32_0 rfl) ?_
              refine rg_q (q_loadA (ds := [_, _, _, _, _, _, _, _, _, _, _]) sz28 rfl rfl rfl) ?_
              refine rg_q (q_fieldAddr_ref fld39_1 rfl) (rg_q (q_fieldAddr_ref fld37_1 rfl) (rg_q (q_load_ref sz3 rfl rfl rfl) ?_))
              refine rg_q (q_call en73 (.cons rfl (.cons rfl .nil)) rfl (inPlate_p _ _ ht1 ht2)) ?_
              refine rg_q (q_not rfl) (rg_q (q_m rfl) ?_)
              refine rg_g rfl rfl (fun hG => (q_fieldAddr_ref fld39_0 rfl)) ?_
              refine rg_g rfl rfl (fun hG => (q_load_ref sz3 rfl rfl rfl)) ?_
              refine rg_g rfl rfl (fun hG => (q_eql rfl rfl)) ?_
              refine rg_g rfl rfl (fun hG => (q_m rfl)) ?_
              refine rg_g rfl rfl (fun hG => (q_fieldAddr fld32_0 rfl)) ?_
              refine rg_g rfl rfl (fun hG => (q_loadA (ds := [_, _, _, _, _, _, _, _, _, _, _]) sz28 rfl rfl rfl)) ?_
              refine rg_g rfl rfl (fun hG => (q_fieldAddr_ref fld39_2 rfl)) ?_
              refine rg_g rfl rfl (fun hG => (q_fieldAddr_ref fld37_1 rfl)) ?_
              refine rg_g rfl rfl (fun hG => (q_load_ref sz3 rfl rfl rfl)) ?_
              refine rg_g rfl rfl (fun hG => (q_call en73 (.cons rfl (.cons rfl .nil)) rfl (inPlate_p _ _ ht1 ht2))) ?_
              refine rg_g rfl rfl (fun hG => (q_not rfl)) ?_
              refine rg_pickg rfl rfl rfl rfl rfl rfl rfl rfl ?_
              refine rg_pick rfl rfl rfl rfl rfl rfl ?_
              refine xc (awp_cond rfl (fun hc16 => ?_) (fun hc16 => ?_))
              ·
                (try simp only [nb, ne_eq] at hc16)
                rw [if_pos hc16] at he
                refine awp_seq ?_
                refine xa 3 ?_
                refine rg_q (q_m rfl) (rg_q (q_a rfl) (rg_q (q_a rfl) ?_))
                refine xc (awp_ret ?_)
                refine ⟨_, xk2, ?_⟩
                rw [hu, hf, hd, he]; rfl
              ·
                (try simp only [nb, ne_eq] at hc16)
                rw [if_neg (fun q => q.elim (fun q => by rw [hc16.1] at q; cases q) (fun q => hc16.2.elim (fun z => z q.1) (fun z => by rw [z] at q; cases q.2)))] at he
                refine awp_skip ?_
                change Awp _ _ _ _ _
                refine xa 3 ?_
                refine rg_q (q_m rfl) ?_
                refine rg_q (q_add rfl rfl xi) ?_
                refine rg_q (q_a rfl) ?_
                refine rn ?_
                refine ⟨k + 1, ⟨by omega, by rw [hf, hd, if_neg (by rw [he]; simp)]⟩, by omega, ?_⟩
                exact xh (ms := []) (by repeat (first | exact Out.head rfl rfl | (refine Out.put ?_ rfl) | (refine Out.site ?_ rfl))) ⟨(by rfl), trivial⟩ trivial
          ·
            (try simp only [nb, ne_eq] at hc10)
            have hk0 : ckFls s.ar.ou.t 0 s.fl = (0, 0) := by rw [hf, List.drop_of_length_le (by omega)]; rfl
            rw [hk0] at hu
            refine awp_exit ?_
            change Awp _ _ _ _ _
            refine awp_seq ?_
            refine xa 2 ?_
            refine rg_q (q_a rfl) (rg_q (q_a rfl) ?_)
            refine xc (awp_ret ?_)
            refine ⟨_, xk2, ?_⟩
            rw [hu]; rfl
theorem specimenErr_p (s : Spc) : PC Tryz.prog 13 [.agg (spcC s)] (.v (.int .i64 ((ckSpc s).2))) := by
 refine pc_of_awp Tryz.func13 rfl Tryz.ntmps13 (rs := [.tmp 2]) Tryz.results13 (by simp) fun w0 => ?_
 refine awp_seq ?_
 refine xa 2 ?_
 refine rg_q (q_box rfl (by exact .inr ⟨_, rfl⟩)) ?_
 refine rg_q (q_a rfl) ?_
 refine rs (xa 7 ?_)
 refine rg_q (q_loadA sz32 rfl rfl rfl) ?_
 refine rg_q (q_call en41 (.cons rfl .nil) rfl (rcheckSpc_p _)) ?_
 refine rg_q (q_move (x := .d (.tup _)) rfl) (rg_q (q_extract rfl rfl) (rg_q (q_extract rfl rfl) (rg_q (q_a rfl) (rg_q (q_a rfl) ?_))))
 refine rs (xa 2 ?_)
 refine rg_q (q_m rfl) (rg_q (q_a rfl) ?_)
 refine xc (awp_ret ?_)
 refine ⟨_, xk1, ?_⟩
 rfl
theorem copySpots_p (l : List (Int × Int)) (hl : l.length ≤ 1000) : PC Tryz.prog 70 [.sl 2 (l.map shC)] (.sl 2 (l.map shC)) := by
 refine pc_of_awp Tryz.func70 rfl Tryz.ntmps70 (rs := [.tmp 2]) Tryz.results70 (by simp) fun w0 => ?_
 refine awp_seq ?_
 refine xa 1 ?_
 refine rg_q (q_assign (x := .d (.sl _ _)) rfl) ?_
 refine rs (xa 4 ?_)
 refine rg_q (q_empty0 sl22 zr37) ?_
 refine rg_q (q_move (x := .d (.sl _ _)) rfl) ?_
 refine rg_q (q_append0 sl22 zr37 by37 rfl (by decide) rfl rfl rfl (by (try simp only [List.length_map]); omega) (by (try simp only [List.length_map]); omega)) ?_
 refine rg_q (q_assign (x := .d (.sl _ _)) rfl) ?_
 refine xc (awp_ret ?_)
 refine ⟨_, xk1, ?_⟩
 rfl
theorem copyArr_p (a : Arr) (hl : a.el.length ≤ 1000) : PC Tryz.prog 39 [.agg (arrC a)] (.agg (arrC a)) := by
 refine pc_of_awp Tryz.func39 rfl Tryz.ntmps39 (rs := [.cell 2 28]) Tryz.results39 (by simp) fun w0 => ?_
 refine awp_seq ?_
 refine xa 0 ?_
 refine rg_nil ?_
 refine aops_box (X := .agg (arrC a)) rfl (by exact .inr ⟨_, rfl⟩) rfl rfl rfl ?_
 refine aops_alloc zr28 rfl rfl rfl ?_
 refine aops_nil (xq (xa 4 ?_))
 refine rg_q (q_fieldAddr_ref fld28_0 rfl) (rg_q (q_load_ref sz22 rfl rfl rfl) ?_)
 refine rg_q (q_call en70 (.cons rfl .nil) rfl (copySpots_p _ (by omega))) ?_
 refine rg_q (q_fieldAddr_ref fld28_0 rfl) ?_
 refine rg_nil ?_
 refine aops_store sz22 rfl rfl (by exact .inl rfl) rfl rfl (by exact Nat.le_of_ble_eq_true rfl) rfl ?_
 refine aops_nil (xq (xa 1 ?_))
 refine rg_q (q_load_refA (ds := [_, _, _, _, _, _, _, _, _, _, _]) sz28 rfl rfl rfl rfl) ?_
 refine rg_nil ?_
 refine aops_store sz28 rfl rfl (by exact .inr ⟨_, rfl⟩) rfl rfl (by decide) rfl ?_
 refine aops_nil ?_
 change Awp _ _ _ _ _
 refine awp_ret ?_
 refine ⟨_, (.cons (.cellA rfl rfl sz28 rfl) .nil), ?_⟩
 rfl
theorem copySpc_p (s : Spc) (hl : s.ar.el.length ≤ 1000) (h2 : s.pl.length ≤ 1000) (h3 : s.fl.length ≤ 1000) : PC Tryz.prog 12 [.agg (spcC s)] (.agg (spcC s)) := by
 refine pc_of_awp Tryz.func12 rfl Tryz.ntmps12 (rs := [.cell 2 32]) Tryz.results12 (by simp) fun w0 => ?_
 refine awp_seq ?_
 refine xa 1 ?_
 refine rg_q (q_box rfl (by exact .inr ⟨_, rfl⟩)) ?_
 refine rg_nil ?_
 refine aops_alloc zr32 rfl rfl rfl ?_
 refine aops_nil (xq (xa 11 ?_))
 refine rg_q (q_fieldAddr fld32_0 rfl) ?_
 refine rg_q (q_loadA (ds := [_, _, _, _, _, _, _, _, _, _, _]) sz28 rfl rfl rfl) ?_
 refine rg_q (q_call en39 (.cons rfl .nil) rfl (copyArr_p s.ar (by omega))) ?_
 refine rg_q (q_fieldAddr fld32_1 rfl) (rg_q (q_load sz29 rfl rfl) ?_)
 refine rg_q (q_call en40 (.cons rfl .nil) rfl (copyInts4_p _ (by omega))) ?_
 refine rg_q (q_empty0 sl30 zr39) ?_
 refine rg_q (q_fieldAddr fld32_2 rfl) (rg_q (q_load sz30 rfl rfl) ?_)
 refine rg_q (q_append0 sl30 zr39 by39 rfl (by decide) rfl rfl rfl (by (try simp only [List.length_map]); omega) (by (try simp only [List.length_map]); omega)) ?_
 refine rg_q (q_build pl32 zr32 rfl (.cons rfl (by exact .inr ⟨_, rfl⟩) (.cons rfl (by exact .inl rfl) (.cons rfl (by exact .inl rfl) .nil))) ⟨⟨rfl, by decide⟩, ⟨rfl, by decide⟩, ⟨rfl, by decide⟩, trivial⟩ rfl) ?_
 refine rg_nil ?_
 refine aops_store sz32 rfl rfl (by exact .inr ⟨_, rfl⟩) rfl rfl (by decide) rfl ?_
 refine aops_nil ?_
 change Awp _ _ _ _ _
 refine awp_ret ?_
 refine ⟨_, (.cons (.cellA rfl rfl sz32 rfl) .nil), ?_⟩
 rfl

def fewB (n : Nat) : Bool := decide (n ≤ 3) || (decide (16 < n) && decide (n ≤ 18))
def pcsB (x : Flw) : Bool := decide (4 < x.pc) && decide (x.pc ≤ 20)
def sliB (s : Spc) : Bool := !(!fewB s.ar.el.length || decide (18 < s.pl.length) || (decide (2 < s.fl.length) && decide (s.fl.length ≤ 10)) || decide (12 < s.fl.length)) && s.fl.all fun x => !pcsB x
theorem few_le {n : Nat} (h : fewB n = true) : n ≤ 18 := by simp [fewB] at h; omega
theorem sli_le {s : Spc} (h : sliB s = true) : s.ar.el.length ≤ 18 ∧ s.pl.length ≤ 18 ∧ s.fl.length ≤ 12 := by
  simp [sliB] at h
  obtain ⟨⟨⟨⟨h1, h2⟩, h3⟩, h4⟩, _⟩ := h
  exact ⟨few_le h1, h2, h4⟩
theorem all_at {l : List Flw} {k : Nat} {x : Flw} (hx : l[k]? = some x) : ((l.drop k).all fun x => !pcsB x) = (!pcsB x && (l.drop (k + 1)).all fun x => !pcsB x) := by
  obtain ⟨hlt, rfl⟩ := List.getElem?_eq_some_iff.1 hx
  rw [List.drop_eq_getElem_cons hlt]; rfl
theorem few_p (a : Arr) : PC Tryz.prog 24 [.agg (arrC a)] (.v (.bool (fewB a.el.length))) := by
 refine pc_of_awp Tryz.func24 rfl Tryz.ntmps24 (rs := [.tmp 2]) Tryz.results24 (by simp) fun w0 => ?_
 refine awp_seq ?_
 refine xa 2 ?_
 refine rg_q (q_box rfl (by exact .inr ⟨_, rfl⟩)) ?_
 refine rg_q (q_a rfl) ?_
 refine rs (xa 17 ?_)
 refine rg_q (q_fieldAddr fld28_0 rfl) (rg_q (q_load sz22 rfl rfl) ?_)
 refine rg_q (q_len isl22 rfl (by exact len_map _ _)) ?_
 refine rg_q (q_leq rfl rfl) (rg_q (q_m rfl) ?_)
 refine rg_g rfl rfl (fun hG => (q_fieldAddr fld28_0 rfl)) ?_
 refine rg_g rfl rfl (fun hG => (q_load sz22 rfl rfl)) ?_
 refine rg_g rfl rfl (fun hG => (q_len isl22 rfl (by exact len_map _ _))) ?_
 refine rg_g rfl rfl (fun hG => (q_gtr rfl rfl)) ?_
 refine rg_g rfl rfl (fun hG => (q_m rfl)) ?_
 refine rg_g rfl rfl (fun hG => (q_fieldAddr fld28_0 rfl)) ?_
 refine rg_g rfl rfl (fun hG => (q_load sz22 rfl rfl)) ?_
 refine rg_g rfl rfl (fun hG => (q_len isl22 rfl (by exact len_map _ _))) ?_
 refine rg_g rfl rfl (fun hG => (q_leq rfl rfl)) ?_
 refine rg_pickg rfl rfl rfl rfl rfl rfl rfl rfl ?_
 refine rg_pick rfl rfl rfl rfl rfl rfl ?_
 refine rg_q (q_a rfl) ?_
 refine xc (awp_len (t := 4) rfl (fun hl4 => ?_))
 (try simp only [List.length_map] at hl4)
 refine awp_ret ?_
 refine ⟨_, xk1, ?_⟩
 have e1 : decide (a.el.length ≤ 3) = decide ((a.el.length : Int) ≤ 3) := decide_eq_decide.2 (by omega)
 have e2 : decide (16 < a.el.length) = decide (16 < (a.el.length : Int)) := decide_eq_decide.2 (by omega)
 have e3 : decide (a.el.length ≤ 18) = decide ((a.el.length : Int) ≤ 18) := decide_eq_decide.2 (by omega)
 unfold fewB; rw [e1, e2, e3]; simp only [bif_and, bif_or]; rfl
theorem slight_p (s : Spc) : PC Tryz.prog 5 [.agg (spcC s)] (.v (.bool (sliB s))) := by
 have hu : sliB s = (!(!fewB s.ar.el.length || decide (18 < s.pl.length) || (decide (2 < s.fl.length) && decide (s.fl.length ≤ 10)) || decide (12 < s.fl.length)) && s.fl.all fun x => !pcsB x) := rfl
 refine pc_of_awp Tryz.func5 rfl Tryz.ntmps5 (rs := [.tmp 2]) Tryz.results5 (by simp) fun w0 => ?_
 refine awp_seq ?_
 refine xa 2 ?_
 refine rg_q (q_box rfl (by exact .inr ⟨_, rfl⟩)) ?_
 refine rg_q (q_a rfl) ?_
 refine rs (awp_seq ?_)
 refine xa 28 ?_
 refine rg_q (q_fieldAddr fld32_0 rfl) ?_
 refine rg_q (q_loadA (ds := [_, _, _, _, _, _, _, _, _, _, _]) sz28 rfl rfl rfl) ?_
 refine rg_q (q_call en24 (.cons rfl .nil) rfl (few_p s.ar)) ?_
 refine rg_q (q_not rfl) (rg_q (q_m rfl) ?_)
 refine rg_g rfl rfl (fun hG => (q_fieldAddr fld32_1 rfl)) ?_
 refine rg_g rfl rfl (fun hG => (q_load sz29 rfl rfl)) ?_
 refine rg_g rfl rfl (fun hG => (q_len isl29 rfl (by exact len_map _ _))) ?_
 refine rg_g rfl rfl (fun hG => (q_gtr rfl rfl)) ?_
 refine rg_pick rfl rfl rfl rfl rfl rfl ?_
 refine rg_q (q_m rfl) ?_
 refine rg_g rfl rfl (fun hG => (q_fieldAddr fld32_2 rfl)) ?_
 refine rg_g rfl rfl (fun hG => (q_load sz30 rfl rfl)) ?_
 refine rg_g rfl rfl (fun hG => (q_len isl30 rfl (by exact len_map _ _))) ?_
 refine rg_g rfl rfl (fun hG => (q_gtr rfl rfl)) ?_
 refine rg_g rfl rfl (fun hG => (q_m rfl)) ?_
 refine rg_g rfl rfl (fun hG => (q_fieldAddr fld32_2 rfl)) ?_
 refine rg_g rfl rfl (fun hG => (q_load sz30 rfl rfl)) ?_
 refine rg_g rfl rfl (fun hG => (q_len isl30 rfl (by exact len_map _ _))) ?_
 refine rg_g rfl rfl (fun hG => (q_leq rfl rfl)) ?_
 refine rg_pickg rfl rfl rfl rfl rfl rfl rfl rfl ?_
 refine rg_pick rfl rfl rfl rfl rfl rfl ?_
 refine rg_q (q_m rfl) ?_
 refine rg_g rfl rfl (fun hG => (q_fieldAddr fld32_2 rfl)) ?_
 refine rg_g rfl rfl (fun hG => (q_load sz30 rfl rfl)) ?_
 refine rg_g rfl rfl (fun hG => (q_len isl30 rfl (by exact len_map _ _))) ?_
 refine rg_g rfl rfl (fun hG => (q_gtr rfl rfl)) ?_
 refine rg_pick rfl rfl rfl rfl rfl rfl ?_
 refine xc (awp_cond rfl (fun hc1 => ?_) (fun hc1 => ?_))
 ·
  (try simp only [nb, ne_eq] at hc1)
  have hq : (!fewB s.ar.el.length || decide (18 < s.pl.length) || (decide (2 < s.fl.length) && decide (s.fl.length ≤ 10)) || decide (12 < s.fl.length)) = true := by
   rcases hc1 with ((q | q) | ⟨q, q2⟩) | q
   · simp [q]
   · simp; omega
   · simp; omega
   · simp; omega
  rw [hq] at hu
  refine awp_seq ?_
  refine xa 1 ?_
  refine rg_q (q_a rfl) ?_
  refine xc (awp_ret ?_)
  refine ⟨_, xk1, ?_⟩
  rw [hu]; rfl
 ·
  (try simp only [nb, ne_eq] at hc1)
  have hq : (!fewB s.ar.el.length || decide (18 < s.pl.length) || (decide (2 < s.fl.length) && decide (s.fl.length ≤ 10)) || decide (12 < s.fl.length)) = false := by
   obtain ⟨⟨⟨q1, q2⟩, q3⟩, q4⟩ := hc1
   simp [q1]; omega
  rw [hq] at hu
  refine awp_skip ?_
  change Awp _ _ _ _ _
  refine awp_seq ?_
  refine awp_seq ?_
  refine xa 1 ?_
  refine rg_q (q_a rfl) ?_
  refine xc (awp_block ?_)
  refine awp_loopH [2, 3, 32, 33, 34, 35, 36, 37, 38, 39, 40, 41, 42, 43, 44, 45, 46, 47, 48, 49, 50, 51, 52, 53, 54] [] (α := Nat) (fun k => [(3, T.i (k : Int))]) (fun k => []) (fun k => k ≤ s.fl.length ∧ (s.fl.all fun x => !pcsB x) = ((s.fl.drop k).all fun x => !pcsB x)) (fun k => s.fl.length - k) 0 ⟨Nat.zero_le _, rfl⟩ ?_ ?_
  · exact xh (ms := []) (by repeat (exact Out.refl _)) ⟨(by rfl), trivial⟩ trivial
  ·
   intro k ⟨hk, hf⟩
   refine awp_seq ?_
   refine awp_seq ?_
   refine xa 5 ?_
   refine rg_q (q_m rfl) (rg_q (q_fieldAddr fld32_2 rfl) (rg_q (q_load sz30 rfl rfl) ?_))
   refine rg_q (q_len isl30 rfl (by exact len_map _ _)) ?_
   refine rg_q (q_lss rfl rfl) ?_
   refine xc (awp_len (t := 34) rfl (fun hl34 => ?_))
   (try simp only [List.length_map] at hl34)
   refine awp_cond rfl (fun hc4 => ?_) (fun hc4 => ?_)
   ·
    (try simp only [nb, ne_eq] at hc4)
    have hlt : k < s.fl.length := by omega
    obtain ⟨x, hx⟩ : ∃ x, s.fl[k]? = some x := ⟨_, List.getElem?_eq_getElem hlt⟩
    have hd := all_at hx
    refine awp_skip ?_
    change Awp _ _ _ _ _
    refine awp_seq ?_
    refine awp_block ?_
    refine awp_seq ?_
    refine xa 16 ?_
    refine rg_q (q_fieldAddr fld32_2 rfl) (rg_q (q_load sz30 rfl rfl) (rg_q (q_m rfl) ?_))
    refine rg_q (q_indexAddr sl30 rfl rfl (by omega) (map_at (by omega) hx)) ?_
    refine rg_q (q_fieldAddr fld39_3 rfl) (rg_q (q_load sz3 rfl rfl) (rg_q (q_gtr rfl rfl) (rg_q (q_m rfl) ?_)))
    refine rg_g rfl rfl (fun hG => (q_fieldAddr fld32_2 rfl)) ?_
    refine rg_g rfl rfl (fun hG => (q_load sz30 rfl rfl)) ?_
    refine rg_g rfl rfl (fun hG => (q_m rfl)) ?_
    refine rg_g rfl rfl (fun hG => (q_indexAddr sl30 rfl rfl (by (have hg0 := T.bool_inj (a := _) hG.1; (try simp only [nb, ne_eq] at hg0); omega)) (map_at (by (have hg0 := T.bool_inj (a := _) hG.1; (try simp only [nb, ne_eq] at hg0); omega)) hx))) ?_
    refine rg_g rfl rfl (fun hG => (q_fieldAddr fld39_3 rfl)) ?_
    refine rg_g rfl rfl (fun hG => (q_load sz3 rfl rfl)) ?_
    refine rg_g rfl rfl (fun hG => (q_leq rfl rfl)) ?_
    refine rg_pick rfl rfl rfl rfl rfl rfl ?_
    refine xc (awp_cond rfl (fun hc6 => ?_) (fun hc6 => ?_))
    ·
     (try simp only [nb, ne_eq] at hc6)
     have hp : pcsB x = true := by unfold pcsB; simp; omega
     refine awp_seq ?_
     refine xa 1 ?_
     refine rg_q (q_a rfl) ?_
     refine xc (awp_ret ?_)
     refine ⟨_, xk1, ?_⟩
     rw [hu, hf, hd, hp]; rfl
    ·
     (try simp only [nb, ne_eq] at hc6)
     have hp : pcsB x = false := by unfold pcsB; simp; omega
     refine awp_skip ?_
     change Awp _ _ _ _ _
     refine xa 3 ?_
     refine rg_q (q_m rfl) ?_
     refine rg_q (q_add rfl rfl xi) ?_
     refine rg_q (q_a rfl) ?_
     refine rn ?_
     refine ⟨k + 1, ⟨by omega, by rw [hf, hd, hp]; rfl⟩, by omega, ?_⟩
     exact xh (ms := []) (by repeat (first | exact Out.head rfl rfl | (refine Out.put ?_ rfl))) ⟨(by rfl), trivial⟩ trivial
   ·
    (try simp only [nb, ne_eq] at hc4)
    have hk0 : (s.fl.all fun x => !pcsB x) = true := by rw [hf, List.drop_of_length_le (by omega)]; rfl
    rw [hk0] at hu
    refine awp_exit ?_
    change Awp _ _ _ _ _
    refine awp_seq ?_
    refine xa 1 ?_
    refine rg_q (q_a rfl) ?_
    refine xc (awp_ret ?_)
    refine ⟨_, xk1, ?_⟩
    rw [hu]; rfl
open Go
end Go.Proofs.YtkbdnkjjklbddaaGreatDoor.Am.M
