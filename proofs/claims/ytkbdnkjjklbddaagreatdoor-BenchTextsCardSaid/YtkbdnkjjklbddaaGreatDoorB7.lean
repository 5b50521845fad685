/- Contracts over the abstract machine: numbers read into places: the code. Conditions: none. -/
import Derived.Test.YtkbdnkjjklbddaaGreatDoorB6
set_option linter.unusedVariables false
set_option linter.unusedSimpArgs false
-- mini
set_option maxRecDepth 100000
namespace Go.Proofs.YtkbdnkjjklbddaaGreatDoor.Am.M
open Go

def wrC (cs : List D) (os : List Nat) (ns : List Int) : Nat → List D
  | 0 => cs
  | k + 1 => setCs (wrC cs os ns k) (os.getD k 0) [.v (.int .i64 (ns.getD k 0))]
theorem wrC_len {cs : List D} {os : List Nat} (h : ∀ o ∈ os, o < cs.length) (ns : List Int) : ∀ k, k ≤ os.length → (wrC cs os ns k).length = cs.length
  | 0, _ => rfl
  | k + 1, hk => by
    have ih := wrC_len h ns k (by omega)
    have ho : os.getD k 0 < cs.length := by
      rw [List.getD_eq_getElem?_getD, List.getElem?_eq_getElem (by omega)]
      exact h _ (List.getElem_mem _)
    show (setCs (wrC cs os ns k) (os.getD k 0) [_]).length = _
    unfold setCs
    simp only [List.length_append, List.length_take, List.length_drop, List.length_cons, List.length_nil]
    omega
def rdB (s wd : ByteArray) (n : Nat) : Bool := (nbR s wd).2 && decide ((nbR s wd).1.length = n)
def rdC (cs : List D) (os : List Nat) (s wd : ByteArray) : List D := if rdB s wd os.length = true then wrC cs os (nbR s wd).1 os.length else cs
theorem readNo_p (b0 : Nat) (s wd : ByteArray) (hs : s.size ≤ 100000) (cs : List D) (os : List Nat) (hol : os.length ≤ 10) (hno : rdB s wd os.length = false) : PCSX Tryz.prog NGB GB b0 57 [.d (.v (.string (s))), .d (.v (.string (wd))), .d (.sl 1 (os.map fun o => [.v (ptr b0 o)]))] [.box cs] (.d (.v (.bool (false)))) [.box cs] := by
 refine pcsx_of_awp gb_low Tryz.func57 rfl Tryz.ntmps57 (rs := [.tmp 6]) Tryz.results57 (by simp) 1000 b0 rfl fun w0 hrnd hGB hNG => ?_
 have hG : ∀ w, ExtM w0 w → GW w := fun w h => (hGB w h).1
 refine awp_seq ?_
 refine xa 1 ?_
 refine rg_q (q_a rfl) ?_
 refine rs (xa 8 ?_)
 refine rg_q (q_m rfl) (rg_q (q_m rfl) ?_)
 refine rg_q (q_callG en78 (.cons rfl (.cons rfl .nil)) rfl hG (numbers13_p s wd hs)) ?_
 refine rg_q (q_move (x := .d (.tup _)) rfl) (rg_q (q_extract rfl rfl) (rg_q (q_extract rfl rfl) (rg_q (q_assign (x := .d (.sl _ _)) rfl) (rg_q (q_a rfl) ?_))))
 refine rs (awp_seq ?_)
 refine xa 9 ?_
 refine rg_q (q_m rfl) (rg_q (q_not rfl) (rg_q (q_m rfl) ?_))
 refine rg_g rfl rfl (fun hG => (q_move (x := .d (.sl _ _)) rfl)) ?_
 refine rg_g rfl rfl (fun hG => (q_len isl29 rfl (by exact len_map _ _))) ?_
 refine rg_g rfl rfl (fun hG => (q_move (x := .d (.sl _ _)) rfl)) ?_
 refine rg_g rfl rfl (fun hG => (q_len isl77 rfl (by exact len_map _ _))) ?_
 refine rg_g rfl rfl (fun hG => (q_neq rfl rfl)) ?_
 refine rg_pick rfl rfl rfl rfl rfl rfl ?_
 refine xc (awp_cond rfl (fun hc2 => ?_) (fun hc2 => ?_))
 ·
  (try simp only [nb, ne_eq] at hc2)
  refine awp_seq ?_
  refine xa 1 ?_
  refine rg_q (q_a rfl) ?_
  refine xc (awp_ret ?_)
  exact end_mk (.inl rfl) [40] (.tmp rfl) (by repeat (first | exact trivial | refine ⟨rfl, ?_⟩)) rfl
 ·
  simp [List.length_map] at hc2
  unfold rdB at hno
  simp [hc2.1] at hno
  exact absurd (by omega) hno
theorem readYes_p (b0 : Nat) (s wd : ByteArray) (hs : s.size ≤ 100000) (cs : List D) (os : List Nat) (hol : os.length ≤ 10) (hoc : ∀ o ∈ os, o < cs.length) (hy2 : (nbR s wd).2 = true) (hyl : (nbR s wd).1.length = os.length) : PCSX Tryz.prog NGB GB b0 57 [.d (.v (.string (s))), .d (.v (.string (wd))), .d (.sl 1 (os.map fun o => [.v (ptr b0 o)]))] [.box cs] (.d (.v (.bool (true)))) [.box (wrC cs os (nbR s wd).1 os.length)] := by
 refine pcsx_of_awp gb_low Tryz.func57 rfl Tryz.ntmps57 (rs := [.tmp 6]) Tryz.results57 (by simp) 1000 b0 rfl fun w0 hrnd hGB hNG => ?_
 have hG : ∀ w, ExtM w0 w → GW w := fun w h => (hGB w h).1
 refine awp_seq ?_
 refine xa 1 ?_
 refine rg_q (q_a rfl) ?_
 refine rs (xa 8 ?_)
 refine rg_q (q_m rfl) (rg_q (q_m rfl) ?_)
 refine rg_q (q_callG en78 (.cons rfl (.cons rfl .nil)) rfl hG (numbers13_p s wd hs)) ?_
 refine rg_q (q_move (x := .d (.tup _)) rfl) (rg_q (q_extract rfl rfl) (rg_q (q_extract rfl rfl) (rg_q (q_assign (x := .d (.sl _ _)) rfl) (rg_q (q_a rfl) ?_))))
 refine rs (awp_seq ?_)
 refine xa 9 ?_
 refine rg_q (q_m rfl) (rg_q (q_not rfl) (rg_q (q_m rfl) ?_))
 refine rg_g rfl rfl (fun hG => (q_move (x := .d (.sl _ _)) rfl)) ?_
 refine rg_g rfl rfl (fun hG => (q_len isl29 rfl (by exact len_map _ _))) ?_
 refine rg_g rfl rfl (fun hG => (q_move (x := .d (.sl _ _)) rfl)) ?_
 refine rg_g rfl rfl (fun hG => (q_len isl77 rfl (by exact len_map _ _))) ?_
 refine rg_g rfl rfl (fun hG => (q_neq rfl rfl)) ?_
 refine rg_pick rfl rfl rfl rfl rfl rfl ?_
 refine xc (awp_cond rfl (fun hc2 => ?_) (fun hc2 => ?_))
 ·
  simp [hy2, hyl, List.length_map] at hc2
 ·
  (try simp only [nb, ne_eq] at hc2)
  refine awp_skip ?_
  change Awp _ _ _ _ _
  refine awp_seq ?_
  refine awp_seq ?_
  refine xa 3 ?_
  refine rg_q (q_move (x := .d (.sl _ _)) rfl) ?_
  refine rg_q (q_len isl29 rfl (by exact len_map _ _)) ?_
  refine rg_q (q_m rfl) ?_
  refine xc (awp_len (t := 26) rfl (fun hl26 => ?_))
  (try simp only [List.length_map] at hl26)
  refine awp_block ?_
  refine awp_loopH [9, 10, 28, 29, 30, 31, 32, 33, 34, 35, 36, 37, 38, 39] [40] (α := Nat) (fun k => [(28, T.i (k : Int))]) (fun k => [(40, .box (wrC cs os (nbR s wd).1 k))]) (fun k => k ≤ os.length) (fun k => os.length - k) 0 (Nat.zero_le _) ?_ ?_
  · exact xh (ms := [40]) (by repeat (exact Out.refl _)) ⟨(by rfl), trivial⟩ ⟨(by rfl), trivial⟩
  ·
   intro k hk
   refine awp_seq ?_
   refine xa 1 ?_
   refine rg_q (q_lss rfl rfl) ?_
   refine rs (awp_cond rfl (fun hc5 => ?_) (fun hc5 => ?_))
   ·
    (try simp only [nb, ne_eq] at hc5)
    (try simp only [List.length_map] at hc5)
    have hlt : k < os.length := by omega
    have hx : (nbR s wd).1[k]? = some ((nbR s wd).1.getD k 0) := by rw [List.getD_eq_getElem?_getD, List.getElem?_eq_getElem (by omega)]; rfl
    have ho : os[k]? = some (os.getD k 0) := by rw [List.getD_eq_getElem?_getD, List.getElem?_eq_getElem (by omega)]; rfl
    have hwl := wrC_len hoc (nbR s wd).1 k (by omega)
    have hox : os.getD k 0 < cs.length := hoc _ (List.mem_of_getElem? ho)
    refine awp_skip ?_
    change Awp _ _ _ _ _
    refine awp_seq ?_
    refine awp_block ?_
    refine awp_seq ?_
    refine xa 5 ?_
    refine rg_q (q_m rfl) ?_
    refine rg_q (q_indexAddr sl29 rfl rfl (by omega) (map_at (by omega) hx)) ?_
    refine rg_q (q_load sz3 rfl rfl) (rg_q (q_a rfl) (rg_q (q_a rfl) ?_))
    refine rn ?_
    change Awp _ _ _ _ _
    refine xa 6 ?_
    refine rg_q (q_move (x := .d (.sl _ _)) rfl) (rg_q (q_m rfl) ?_)
    refine rg_q (q_indexAddr sl77 rfl rfl (by omega) (map_at (by omega) ho)) ?_
    refine rg_q (q_load sz87 rfl rfl) (rg_q (q_m rfl) ?_)
    refine rg_q (q_nilCheck_raw rfl) ?_
    refine rg_nil ?_
    refine aops_le (le_reref 1000 38 rfl rfl) ?_
    refine aops_store (cs' := (wrC cs os (nbR s wd).1 (k + 1))) sz3 rfl rfl (by exact .inl rfl) rfl rfl (by rw [hwl]; exact hox) rfl ?_
    refine aops_nil ?_
    change Awp _ _ _ _ _
    refine xa 2 ?_
    refine rg_q (q_add rfl rfl xi) ?_
    refine rg_q (q_m rfl) ?_
    refine rn ?_
    refine ⟨k + 1, by omega, by omega, ?_⟩
    exact xh (ms := [40]) (by repeat (first | exact Out.head rfl rfl | (refine Out.put ?_ rfl) | (refine Out.site ?_ rfl))) ⟨(by rfl), trivial⟩ ⟨(by rfl), trivial⟩
   ·
    (try simp only [nb, ne_eq] at hc5)
    (try simp only [List.length_map] at hc5)
    have hkn : k = os.length := by omega
    subst hkn
    refine awp_exit ?_
    change Awp _ _ _ _ _
    refine awp_seq ?_
    refine xa 1 ?_
    refine rg_q (q_a rfl) ?_
    refine xc (awp_ret ?_)
    exact end_mk (.inl rfl) [40] (.tmp rfl) (by repeat (first | exact trivial | refine ⟨rfl, ?_⟩)) rfl

theorem read_p (b0 : Nat) (s wd : ByteArray) (hs : s.size ≤ 100000) (cs : List D) (os : List Nat) (hol : os.length ≤ 10) (hoc : ∀ o ∈ os, o < cs.length) : PCSX Tryz.prog NGB GB b0 57 [.d (.v (.string (s))), .d (.v (.string (wd))), .d (.sl 1 (os.map fun o => [.v (ptr b0 o)]))] [.box cs] (.d (.v (.bool ((rdB s wd os.length))))) [.box (rdC cs os s wd)] := by
  cases hb : rdB s wd os.length with
  | false => exact (readNo_p b0 s wd hs cs os hol hb).eqs rfl (by unfold rdC; rw [hb]; rfl)
  | true =>
    have hq := hb
    unfold rdB at hq
    rw [Bool.and_eq_true, decide_eq_true_eq] at hq
    exact (readYes_p b0 s wd hs cs os hol hoc hq.1 hq.2).eqs rfl (by unfold rdC; rw [hb]; rfl)
end Go.Proofs.YtkbdnkjjklbddaaGreatDoor.Am.M
