/- Contracts over the abstract machine: a specimen is written: the code and the reference. Conditions: none. -/
import Derived.Test.YtkbdnkjjklbddaaGreatDoorB16
set_option linter.unusedVariables false
set_option linter.unusedSimpArgs false
-- mini
set_option maxRecDepth 100000
namespace Go.Proofs.YtkbdnkjjklbddaaGreatDoor.Am.M
open Go

def lnf : ByteArray := ⟨#[10]⟩
theorem joinN_p (X : List (List UInt8)) (h0 : X ≠ []) (hN : X.length ≤ 1000) (hl : (Lib.join X [10]).length ≤ 1000000) : PCG Tryz.prog GW 38 [.sl 1 ((X.map mkB).map strC), .v (.string lnf)] (.v (.string (mkB (Lib.join X [10])))) := by
  intro w ok vs hG hL
  match vs, hL with
  | [v, v2], ⟨h, h2, _⟩ =>
    obtain rfl := Rep.v_eq h2
    obtain ⟨A, cap, hv, hn, hcap, hsz, hs, hrest⟩ := sl_inv h
    have hX : (X.map mkB).map (·.data.toList) = X := by
      rw [List.map_map]
      conv => rhs; rw [← List.map_id X]
      exact List.map_congr_left fun x _ => data_mkB x
    rcases hrest with e | ⟨b, off, us, hA, hb, hok, hc, hr⟩
    · exact absurd (List.map_eq_nil_iff.1 (List.map_eq_nil_iff.1 e)) h0
    · subst hA hv
      have hlen : ((X.map mkB).map strC).length = (X.map mkB).length := List.length_map _
      rw [hlen] at hn ⊢
      have hXl : (X.map mkB).length = X.length := List.length_map _
      refine (Tryz.strings_Join b off cap (X.map mkB) lnf w ?_ hb (by rw [hXl]; omega) hn (by rw [hX]; show (Lib.join X [10]).length ≤ _; omega)).mono ?_
      · intro j x hj
        have q1 : ((X.map mkB).map strC)[j]? = some (strC x) := by rw [List.getElem?_map, hj]; rfl
        have q2 := hc j _ 0 _ q1 rfl
        have q3 := Rep.v_eq (hr j _ 0 _ q1 rfl)
        rw [q3, Nat.mul_one, Nat.add_zero] at q2
        exact q2
      · rintro e w' ⟨rfl, hB⟩
        rw [hX]
        exact ⟨_, rfl, hB, .v _ rfl⟩

def n2 (p : Int × Int) : List Int := [p.1, p.2]
def mdN (m : Md) : List Int := [m.w, m.m, m.k, m.t]
def prH (s : Spc) : List (List UInt8) := [wrT timS (n2 s.ar.ts), wrT outS (mdN s.ar.ou), wrT bacS (mdN s.ar.ba)]
def prE (s : Spc) : List (List UInt8) := s.ar.el.map fun p => wrT eleS (n2 p)
def prF (s : Spc) : List (List UInt8) := s.fl.map fun x => (flT x).data.toList
def prL (s : Spc) : List (List UInt8) := prH s ++ prE s ++ [wrT pulS s.pl] ++ prF s
def flat (X : List (List UInt8)) : List UInt8 := X.flatMap fun l => l ++ [10]
def prT (s : Spc) : ByteArray := mkB (flat (prL s))
theorem flat_app (X Y : List (List UInt8)) : flat (X ++ Y) = flat X ++ flat Y := by unfold flat; rw [List.flatMap_append]
theorem flat_one (l : List UInt8) : flat [l] = l ++ [10] := by unfold flat; simp
theorem flat_snoc (X : List (List UInt8)) (l : List UInt8) : mkB (flat X) ++ mkB l ++ ⟨#[10]⟩ = mkB (flat (X ++ [l])) := by
  rw [flat_app, flat_one, show (⟨#[10]⟩ : ByteArray) = mkB [10] from rfl, mkB_app, mkB_app, List.append_assoc]
theorem flat_len {X : List (List UInt8)} (h : ∀ l ∈ X, l.length ≤ 1000) : (flat X).length ≤ 1001 * X.length := by
  induction X with
  | nil => exact Nat.zero_le _
  | cons l X ih =>
    rw [show l :: X = [l] ++ X from rfl, flat_app, flat_one, List.length_append, List.length_append, List.length_append]
    have h1 := h l (by simp)
    have h2 := ih fun y hy => h y (by simp [hy])
    simp only [List.length_cons, List.length_nil]
    omega
theorem join_flat : ∀ (x : List UInt8) (X : List (List UInt8)), Lib.join (x :: X) [10] ++ [10] = flat (x :: X)
  | x, [] => by rw [Lib.join_cons, flat_one]; show x ++ [] ++ [10] = _; rw [List.append_nil]
  | x, y :: X => by
    have ih := join_flat y X
    rw [Lib.join_cons] at ih
    rw [Lib.join_cons, show x :: y :: X = [x] ++ (y :: X) from rfl, flat_app, flat_one, ← ih]
    show x ++ ([10] ++ y ++ Lib.joinTail [10] X) ++ [10] = _
    simp
structure SpI (s : Spc) : Prop where
  ts : ∀ n ∈ n2 s.ar.ts, -1000000000000 ≤ n ∧ n ≤ 1000000000000
  ou : ∀ n ∈ mdN s.ar.ou, -1000000000000 ≤ n ∧ n ≤ 1000000000000
  ba : ∀ n ∈ mdN s.ar.ba, -1000000000000 ≤ n ∧ n ≤ 1000000000000
  el : ∀ p ∈ s.ar.el, ∀ n ∈ n2 p, -1000000000000 ≤ n ∧ n ≤ 1000000000000
  pl : ∀ n ∈ s.pl, -1000000000000 ≤ n ∧ n ≤ 1000000000000
  fl : ∀ x ∈ s.fl, FlwOk x
  n1 : s.ar.el.length ≤ 16
  n2' : s.pl.length ≤ 16
  n3 : s.fl.length ≤ 10
theorem spI_of {s : Spc} (h : (ckSpc s).2 = 0) : SpI s := by
  obtain ⟨⟨a1, a2, ael, aou, aba, ath, t1, t2, t3, t4⟩, p1, p2, f1, fl⟩ := spc_ok h
  refine ⟨?_, ?_, ?_, ?_, fun n hn => by have := p2 n hn; omega, fl, a2, p1, f1⟩
  · intro n hn
    simp only [n2, List.mem_cons, List.not_mem_nil, or_false] at hn
    rcases hn with rfl | rfl <;> omega
  · obtain ⟨w1, w2, m1, m2, k1, k2, q1, q2⟩ := aou
    intro n hn
    simp only [mdN, List.mem_cons, List.not_mem_nil, or_false] at hn
    rcases hn with rfl | rfl | rfl | rfl <;> omega
  · obtain ⟨w1, w2, m1, m2, k1, k2, q1, q2⟩ := aba
    intro n hn
    simp only [mdN, List.mem_cons, List.not_mem_nil, or_false] at hn
    rcases hn with rfl | rfl | rfl | rfl <;> omega
  · intro p hp n hn
    obtain ⟨⟨e1, e2⟩, e3, e4⟩ := ael p hp
    simp only [n2, List.mem_cons, List.not_mem_nil, or_false] at hn
    rcases hn with rfl | rfl <;> omega
theorem in64_of {n : Int} (h : -1000000000000 ≤ n ∧ n ≤ 1000000000000) : In64 n := ⟨by omega, by omega⟩
theorem fl_zero {s : Spc} (h : (ckSpc s).2 = 0) : ∀ x ∈ s.fl, flwE x = 0 := by
  intro x hx
  have hq := h
  unfold ckSpc at hq
  by_cases h1 : (ckArr s.ar).2 ≠ 0
  · rw [if_pos h1] at hq; exact absurd hq h1
  · rw [if_neg h1] at hq
    by_cases h2 : spcE0 s ≠ 0
    · rw [if_pos h2] at hq; exact absurd hq h2
    · rw [if_neg h2] at hq
      have key : ∀ (l : List Flw) (i : Nat), (ckFls s.ar.ou.t i l).2 = 0 → ∀ x ∈ l, flE s.ar.ou.t x = 0 := by
        intro l
        induction l with
        | nil => intro i _ x hx; cases hx
        | cons y l ih =>
          intro i hk x hx
          by_cases hy : flE s.ar.ou.t y ≠ 0
          · rw [show ckFls s.ar.ou.t i (y :: l) = (if flE s.ar.ou.t y ≠ 0 then ((i : Int), flE s.ar.ou.t y) else ckFls s.ar.ou.t (i + 1) l) from rfl, if_pos hy] at hk; exact absurd hk hy
          · rw [show ckFls s.ar.ou.t i (y :: l) = (if flE s.ar.ou.t y ≠ 0 then ((i : Int), flE s.ar.ou.t y) else ckFls s.ar.ou.t (i + 1) l) from rfl, if_neg hy] at hk
            rcases List.mem_cons.1 hx with rfl | hx
            · exact Decidable.not_not.1 hy
            · exact ih (i + 1) hk x hx
      have hf := key s.fl 0 hq x hx
      unfold flE at hf
      split at hf
      · rename_i h3
        have := first_zero.1 h3.1
        exact this _ (by simp)
      · exact (first_zero.1 hf) _ (by simp)

theorem prE_i {s : Spc} (h : SpI s) (hf : ∀ x ∈ s.fl, FlwI x) : (∀ l ∈ prH s, l.length ≤ 1000) ∧ (∀ l ∈ prE s, l.length ≤ 1000) ∧ (wrT pulS s.pl).length ≤ 1000 ∧ (∀ l ∈ prF s, l.length ≤ 1000) := by
  refine ⟨?_, ?_, ?_, ?_⟩
  · intro l hl
    simp only [prH, List.mem_cons, List.not_mem_nil, or_false] at hl
    rcases hl with rfl | rfl | rfl
    · have := wrT_len (wd := timS) (ns := n2 s.ar.ts) fun n hn => in64_of (h.ts n hn)
      have e : timS.size = 5 := rfl
      simp only [n2, List.length_cons, List.length_nil] at this
      rw [e] at this; unfold n2; omega
    · have := wrT_len (wd := outS) (ns := mdN s.ar.ou) fun n hn => in64_of (h.ou n hn)
      have e : outS.size = 3 := rfl
      simp only [mdN, List.length_cons, List.length_nil] at this
      rw [e] at this; unfold mdN; omega
    · have := wrT_len (wd := bacS) (ns := mdN s.ar.ba) fun n hn => in64_of (h.ba n hn)
      have e : bacS.size = 4 := rfl
      simp only [mdN, List.length_cons, List.length_nil] at this
      rw [e] at this; unfold mdN; omega
  · intro l hl
    obtain ⟨p, hp, rfl⟩ := List.mem_map.1 hl
    have := wrT_len (wd := eleS) (ns := n2 p) fun n hn => in64_of (h.el p hp n hn)
    have e : eleS.size = 7 := rfl
    simp only [n2, List.length_cons, List.length_nil] at this
    rw [e] at this; unfold n2; omega
  · have := wrT_len (wd := pulS) (ns := s.pl) fun n hn => in64_of (h.pl n hn)
    have e : pulS.size = 5 := rfl
    have e2 := h.n2'
    rw [e] at this; omega
  · intro l hl
    obtain ⟨x, hx, rfl⟩ := List.mem_map.1 hl
    have h3 := wrT_len (wd := porS) (ns := flN3 x) (flI3 (hf x hx))
    have h7 := wrT_len (wd := plaS) (ns := flN7 x) (hf x hx)
    have e3 : porS.size = 4 := rfl
    have e7 : plaS.size = 5 := rfl
    simp only [flN3, flN7, List.length_cons, List.length_nil] at h3 h7
    rw [e3] at h3; rw [e7] at h7
    unfold flT
    split
    · rw [data_mkB]; unfold flN3; omega
    · split
      · rw [data_mkB]; unfold flN7; omega
      · exact Nat.zero_le _
theorem rmodeLine_p (wd : ByteArray) (m : Md) (hw : wd.size ≤ 1000) (h : ∀ n ∈ mdN m, In64 n) : PC Tryz.prog 43 [.v (.string (wd)), .agg (mdC m)] (.v (.string (mkB (wrT wd (mdN m) ++ [10])))) := by
 have hl := wrT_len (wd := wd) (ns := mdN m) h
 have hlf : (⟨#[10]⟩ : ByteArray).size = 1 := rfl
 have hsz := mkB_size (wrT wd (mdN m))
 have hm4 : (mdN m).length = 4 := rfl
 rw [hm4] at hl
 have hz : mkB (wrT wd (mdN m)) ++ ⟨#[10]⟩ = mkB (wrT wd (mdN m) ++ [10]) := by rw [show (⟨#[10]⟩ : ByteArray) = mkB [10] from rfl, mkB_app]
 refine pc_of_awpN Tryz.func43 rfl Tryz.ntmps43 (rs := [.tmp 4]) Tryz.results43 (by simp) fun w0 hmine hrnd hpn => ?_
 refine awp_seq ?_
 refine xa 2 ?_
 refine rg_q (q_box rfl (by exact .inr ⟨_, rfl⟩)) ?_
 refine rg_q (q_a rfl) ?_
 refine rs (xa 13 ?_)
 refine rg_q (q_m rfl) (rg_q (q_fieldAddr fld24_0 rfl) (rg_q (q_load sz3 rfl rfl) (rg_q (q_fieldAddr fld24_1 rfl) (rg_q (q_load sz3 rfl rfl) (rg_q (q_fieldAddr fld24_2 rfl) ?_)))))
 refine rg_q (q_load sz3 rfl rfl) (rg_q (q_fieldAddr fld24_3 rfl) (rg_q (q_load sz3 rfl rfl) ?_))
 refine rg_q (q_buildSlice sl29 zr3 rfl rfl (by decide) (.cons rfl (by exact .inl rfl) (.cons rfl (by exact .inl rfl) (.cons rfl (by exact .inl rfl) (.cons rfl (by exact .inl rfl) .nil)))) ⟨rfl, rfl, rfl, rfl, rfl, rfl, rfl, rfl, trivial⟩ rfl (by decide) rfl) ?_
 refine rg_q (q_call en30 (.cons rfl (.cons rfl .nil)) rfl (rjoined_p wd (mdN m) hw (by simp [mdN]) h)) ?_
 refine rg_q (q_adds rfl rfl (by omega)) ?_
 refine rg_q (q_a rfl) ?_
 refine xc (awp_ret ?_)
 refine ⟨_, xk1, ?_⟩
 rw [← hz]; rfl

theorem sz_flat {X : List (List UInt8)} {n : Nat} (h : ∀ l ∈ X, l.length ≤ 1000) (hn : X.length ≤ n) : (mkB (flat X)).size ≤ 1001 * n := by
  rw [mkB_size]
  exact Nat.le_trans (flat_len h) (Nat.mul_le_mul (Nat.le_refl _) hn)
theorem len_app {X Y : List (List UInt8)} (h1 : ∀ l ∈ X, l.length ≤ 1000) (h2 : ∀ l ∈ Y, l.length ≤ 1000) : ∀ l ∈ X ++ Y, l.length ≤ 1000 := fun l hl => (List.mem_append.1 hl).elim (h1 l) (h2 l)
theorem len_take {X : List (List UInt8)} (h1 : ∀ l ∈ X, l.length ≤ 1000) (k : Nat) : ∀ l ∈ X.take k, l.length ≤ 1000 := fun l hl => h1 l (List.mem_of_mem_take hl)
theorem head_flat (s : Spc) : mkB (wrT timS (n2 s.ar.ts)) ++ ⟨#[10]⟩ ++ mkB (wrT outS (mdN s.ar.ou) ++ [10]) ++ mkB (wrT bacS (mdN s.ar.ba) ++ [10]) = mkB (flat (prH s)) := by
  unfold prH
  rw [show [wrT timS (n2 s.ar.ts), wrT outS (mdN s.ar.ou), wrT bacS (mdN s.ar.ba)] = [wrT timS (n2 s.ar.ts)] ++ ([wrT outS (mdN s.ar.ou)] ++ [wrT bacS (mdN s.ar.ba)]) from rfl, flat_app, flat_app, flat_one, flat_one, flat_one, show (⟨#[10]⟩ : ByteArray) = mkB [10] from rfl, mkB_app, mkB_app, mkB_app]
  simp
theorem rprint_p (s : Spc) (hc : (ckSpc s).2 = 0) (hf : ∀ x ∈ s.fl, FlwI x) : PC Tryz.prog 15 [.agg (spcC s)] (.v (.string (prT s))) := by
 have hi := spI_of hc
 obtain ⟨q1, q2, q3, q4⟩ := prE_i hi hf
 have hEl : (prE s).length = s.ar.el.length := List.length_map _
 have hFl : (prF s).length = s.fl.length := List.length_map _
 have g1 := hi.n1
 have g2 := hi.n2'
 have g3 := hi.n3
 have hlf : (⟨#[10]⟩ : ByteArray).size = 1 := rfl
 have i1 : ∀ n ∈ n2 s.ar.ts, In64 n := fun n hn => in64_of (hi.ts n hn)
 have i2 : ∀ n ∈ mdN s.ar.ou, In64 n := fun n hn => in64_of (hi.ou n hn)
 have i3 : ∀ n ∈ mdN s.ar.ba, In64 n := fun n hn => in64_of (hi.ba n hn)
 have i5 : ∀ n ∈ s.pl, In64 n := fun n hn => in64_of (hi.pl n hn)
 have z1 := q1 (wrT timS (n2 s.ar.ts)) (by simp [prH])
 have z2 := q1 (wrT outS (mdN s.ar.ou)) (by simp [prH])
 have z3 := q1 (wrT bacS (mdN s.ar.ba)) (by simp [prH])
 have hH3 : (prH s).length = 3 := rfl
 have hst0 := head_flat s
 have zz1 : (mkB (wrT timS (n2 s.ar.ts))).size ≤ 1000 := by rw [mkB_size]; exact z1
 have zz2 : (mkB (wrT outS (mdN s.ar.ou) ++ [10])).size ≤ 1001 := by rw [mkB_size, List.length_append]; simp; exact z2
 have zz3 : (mkB (wrT bacS (mdN s.ar.ba) ++ [10])).size ≤ 1001 := by rw [mkB_size, List.length_append]; simp; exact z3
 have zz4 : (mkB (wrT timS (n2 s.ar.ts)) ++ ⟨#[10]⟩).size ≤ 1001 := by rw [ByteArray.size_append, hlf]; omega
 have zz5 : (mkB (wrT timS (n2 s.ar.ts)) ++ ⟨#[10]⟩ ++ mkB (wrT outS (mdN s.ar.ou) ++ [10])).size ≤ 2002 := by rw [ByteArray.size_append]; omega
 have zp : (mkB (wrT pulS s.pl)).size ≤ 1000 := by rw [mkB_size]; exact q3
 refine pc_of_awpN Tryz.func15 rfl Tryz.ntmps15 (rs := [.tmp 2]) Tryz.results15 (by simp) fun w0 hmine hrnd hpn => ?_
 refine awp_seq ?_
 refine xa 2 ?_
 refine rg_q (q_box rfl (by exact .inr ⟨_, rfl⟩)) ?_
 refine rg_q (q_a rfl) ?_
 refine rs (xa 22 ?_)
 refine rg_q (q_fieldAddr fld32_0 rfl) (rg_q (q_fieldAddr fld28_3 rfl) (rg_q (q_fieldAddr fld26_0 rfl) (rg_q (q_load sz3 rfl rfl) (rg_q (q_fieldAddr fld32_0 rfl) (rg_q (q_fieldAddr fld28_3 rfl) ?_)))))
 refine rg_q (q_fieldAddr fld26_1 rfl) (rg_q (q_load sz3 rfl rfl) ?_)
 refine rg_q (q_buildSlice sl29 zr3 rfl rfl (by decide) (.cons rfl (by exact .inl rfl) (.cons rfl (by exact .inl rfl) .nil)) ⟨rfl, rfl, rfl, rfl, trivial⟩ rfl (by decide) rfl) ?_
 refine rg_q (q_call en30 (.cons rfl (.cons rfl .nil)) rfl (rjoined_p timS (n2 s.ar.ts) (by decide) (by simp [n2]) i1)) ?_
 refine rg_q (q_adds rfl rfl (by omega)) ?_
 refine rg_q (q_fieldAddr fld32_0 rfl) (rg_q (q_fieldAddr fld28_1 rfl) ?_)
 refine rg_q (q_loadA (ds := [_, _, _, _]) sz24 rfl rfl rfl) ?_
 refine rg_q (q_call en43 (.cons rfl (.cons rfl .nil)) rfl (rmodeLine_p outS s.ar.ou (by decide) i2)) ?_
 refine rg_q (q_adds rfl rfl (by omega)) ?_
 refine rg_q (q_fieldAddr fld32_0 rfl) (rg_q (q_fieldAddr fld28_2 rfl) ?_)
 refine rg_q (q_loadA (ds := [_, _, _, _]) sz24 rfl rfl rfl) ?_
 refine rg_q (q_call en43 (.cons rfl (.cons rfl .nil)) rfl (rmodeLine_p bacS s.ar.ba (by decide) i3)) ?_
 refine rg_q (q_adds rfl rfl (by omega)) ?_
 refine rg_q (q_a rfl) ?_
 refine rs (awp_seq ?_)
 refine xa 1 ?_
 refine rg_q (q_a rfl) ?_
 refine xc (awp_block ?_)
 refine awp_loopH [3, 4, 27, 28, 29, 30, 31, 32, 33, 34, 35, 36, 37, 38, 39, 40, 41, 42, 43, 44, 45, 46, 47, 48, 49, 50, 51, 52, 53] [] (α := Nat) (fun k => [(4, T.i (k : Int)), (3, .d (.v (.string (mkB (flat (prH s ++ (prE s).take k))))))]) (fun k => []) (fun k => k ≤ s.ar.el.length) (fun k => s.ar.el.length - k) 0 (Nat.zero_le _) ?_ ?_
 · exact xh (ms := []) (by repeat (exact Out.refl _)) ⟨(by rfl), (by ((show T.d (.v (.string _)) = _; rw [hst0, List.take_zero, List.append_nil]))), trivial⟩ trivial
 ·
  intro k hk
  refine awp_seq ?_
  refine awp_seq ?_
  refine xa 6 ?_
  refine rg_q (q_m rfl) (rg_q (q_fieldAddr fld32_0 rfl) (rg_q (q_fieldAddr fld28_0 rfl) (rg_q (q_load sz22 rfl rfl) ?_)))
  refine rg_q (q_len isl22 rfl (by exact len_map _ _)) ?_
  refine rg_q (q_lss rfl rfl) ?_
  refine xc (awp_len (t := 30) rfl (fun hl30 => ?_))
  (try simp only [List.length_map] at hl30)
  refine awp_cond rfl (fun hc3 => ?_) (fun hc3 => ?_)
  ·
   (try simp only [nb, ne_eq] at hc3)
   have hlt : k < s.ar.el.length := by (try simp only [List.length_map] at hc3); omega
   obtain ⟨p, hx⟩ : ∃ p, s.ar.el[k]? = some p := ⟨_, List.getElem?_eq_getElem hlt⟩
   have hpm := List.mem_of_getElem? hx
   have i4 : ∀ n ∈ n2 p, In64 n := fun n hn => in64_of (hi.el p hpm n hn)
   have hpe : (prE s)[k]? = some (wrT eleS (n2 p)) := by unfold prE; rw [List.getElem?_map, hx]; rfl
   have z4 := q2 _ (List.mem_of_getElem? hpe)
   have htk : (prE s).take (k + 1) = (prE s).take k ++ [wrT eleS (n2 p)] := by rw [List.take_succ_eq_append_getElem (by rw [hEl]; exact hlt), (List.getElem?_eq_some_iff.1 hpe).2]
   have y1 := sz_flat (n := 19) (len_app q1 (len_take q2 k)) (by rw [List.length_append, List.length_take]; omega)
   have y2 : (mkB (wrT eleS (n2 p))).size ≤ 1000 := by rw [mkB_size]; exact z4
   have y3 : (mkB (flat (prH s ++ (prE s).take k)) ++ mkB (wrT eleS (n2 p))).size ≤ 21000 := by rw [ByteArray.size_append]; omega
   have hst : mkB (flat (prH s ++ (prE s).take k)) ++ mkB (wrT eleS (n2 p)) ++ ⟨#[10]⟩ = mkB (flat (prH s ++ (prE s).take (k + 1))) := by rw [flat_snoc, htk, List.append_assoc]
   refine awp_skip ?_
   change Awp _ _ _ _ _
   refine awp_seq ?_
   refine awp_block ?_
   refine xa 20 ?_
   refine rg_q (q_m rfl) (rg_q (q_fieldAddr fld32_0 rfl) (rg_q (q_fieldAddr fld28_0 rfl) (rg_q (q_load sz22 rfl rfl) (rg_q (q_m rfl) ?_))))
   refine rg_q (q_indexAddr sl22 rfl rfl (by omega) (map_at (by omega) hx)) ?_
   refine rg_q (q_fieldAddr fld37_0 rfl) (rg_q (q_load sz3 rfl rfl) (rg_q (q_fieldAddr fld32_0 rfl) (rg_q (q_fieldAddr fld28_0 rfl) (rg_q (q_load sz22 rfl rfl) (rg_q (q_m rfl) ?_)))))
   refine rg_q (q_indexAddr sl22 rfl rfl (by omega) (map_at (by omega) hx)) ?_
   refine rg_q (q_fieldAddr fld37_1 rfl) (rg_q (q_load sz3 rfl rfl) ?_)
   refine rg_q (q_buildSlice sl29 zr3 rfl rfl (by decide) (.cons rfl (by exact .inl rfl) (.cons rfl (by exact .inl rfl) .nil)) ⟨rfl, rfl, rfl, rfl, trivial⟩ rfl (by decide) rfl) ?_
   refine rg_q (q_call en30 (.cons rfl (.cons rfl .nil)) rfl (rjoined_p eleS (n2 p) (by decide) (by simp [n2]) i4)) ?_
   refine rg_q (q_adds rfl rfl (by omega)) ?_
   refine rg_q (q_adds rfl rfl (by omega)) ?_
   refine rg_q (q_a rfl) ?_
   refine rn ?_
   change Awp _ _ _ _ _
   refine xa 3 ?_
   refine rg_q (q_m rfl) ?_
   refine rg_q (q_add rfl rfl xi) ?_
   refine rg_q (q_a rfl) ?_
   refine rn ?_
   refine ⟨k + 1, by omega, by omega, ?_⟩
   exact xh (ms := []) (by repeat (first | exact Out.head rfl rfl | (refine Out.put ?_ rfl))) ⟨(by rfl), (by (exact congrArg (fun b => T.d (.v (.string b))) hst)), trivial⟩ trivial
  ·
   (try simp only [nb, ne_eq] at hc3)
   have hkn : k = s.ar.el.length := by (try simp only [List.length_map] at hc3); omega
   have hE : (prE s).take k = prE s := by rw [hkn, ← hEl, List.take_length]
   rw [hE]
   have y4 := sz_flat (n := 19) (len_app q1 q2) (by rw [List.length_append]; omega)
   have y5 : (mkB (flat (prH s ++ prE s)) ++ mkB (wrT pulS s.pl)).size ≤ 21000 := by rw [ByteArray.size_append]; omega
   have hstp : mkB (flat (prH s ++ prE s)) ++ mkB (wrT pulS s.pl) ++ ⟨#[10]⟩ = mkB (flat (prH s ++ prE s ++ [wrT pulS s.pl] ++ (prF s).take 0)) := by rw [flat_snoc, List.take_zero, List.append_nil]
   refine awp_exit ?_
   change Awp _ _ _ _ _
   refine awp_seq ?_
   refine xa 7 ?_
   refine rg_q (q_m rfl) (rg_q (q_fieldAddr fld32_1 rfl) (rg_q (q_load sz29 rfl rfl) ?_))
   refine rg_q (q_call en30 (.cons rfl (.cons rfl .nil)) rfl (rjoined_p pulS s.pl (by decide) (by omega) i5)) ?_
   refine rg_q (q_adds rfl rfl (by omega)) ?_
   refine rg_q (q_adds rfl rfl (by omega)) ?_
   refine rg_q (q_a rfl) ?_
   refine rs (awp_seq ?_)
   refine xa 1 ?_
   refine rg_q (q_a rfl) ?_
   refine xc (awp_block ?_)
   refine awp_loopH [3, 5, 60, 61, 62, 63, 64, 65, 66, 67, 68, 69, 70, 71, 72, 73, 74, 75] [] (α := Nat) (fun k => [(5, T.i (k : Int)), (3, .d (.v (.string (mkB (flat (prH s ++ prE s ++ [wrT pulS s.pl] ++ (prF s).take k))))))]) (fun k => []) (fun k => k ≤ s.fl.length) (fun k => s.fl.length - k) 0 (Nat.zero_le _) ?_ ?_
   · exact xh (ms := []) (by repeat (exact Out.refl _)) ⟨(by rfl), (by (exact congrArg (fun b => T.d (.v (.string b))) hstp)), trivial⟩ trivial
   ·
    intro k hk
    refine awp_seq ?_
    refine awp_seq ?_
    refine xa 5 ?_
    refine rg_q (q_m rfl) (rg_q (q_fieldAddr fld32_2 rfl) (rg_q (q_load sz30 rfl rfl) ?_))
    refine rg_q (q_len isl30 rfl (by exact len_map _ _)) ?_
    refine rg_q (q_lss rfl rfl) ?_
    refine xc (awp_len (t := 62) rfl (fun hl62 => ?_))
    (try simp only [List.length_map] at hl62)
    refine awp_cond rfl (fun hc8 => ?_) (fun hc8 => ?_)
    ·
     (try simp only [nb, ne_eq] at hc8)
     have hlt : k < s.fl.length := by (try simp only [List.length_map] at hc8); omega
     obtain ⟨x, hx⟩ : ∃ x, s.fl[k]? = some x := ⟨_, List.getElem?_eq_getElem hlt⟩
     have hxi := hf x (List.mem_of_getElem? hx)
     have hpf : (prF s)[k]? = some (flT x).data.toList := by unfold prF; rw [List.getElem?_map, hx]; rfl
     have z5 := q4 _ (List.mem_of_getElem? hpf)
     have z6 : (flT x).size = (flT x).data.toList.length := Lib.size_eq _
     have htk : (prF s).take (k + 1) = (prF s).take k ++ [(flT x).data.toList] := by rw [List.take_succ_eq_append_getElem (by rw [hFl]; exact hlt), (List.getElem?_eq_some_iff.1 hpf).2]
     have y1 := sz_flat (n := 30) (len_app (len_app (len_app q1 q2) (Y := [wrT pulS s.pl]) (by simpa using q3)) (len_take q4 k)) (by simp only [List.length_append, List.length_take, List.length_cons, List.length_nil]; omega)
     have y3 : (mkB (flat (prH s ++ prE s ++ [wrT pulS s.pl] ++ (prF s).take k)) ++ flT x).size ≤ 32000 := by rw [ByteArray.size_append]; omega
     have hst : mkB (flat (prH s ++ prE s ++ [wrT pulS s.pl] ++ (prF s).take k)) ++ flT x ++ ⟨#[10]⟩ = mkB (flat (prH s ++ prE s ++ [wrT pulS s.pl] ++ (prF s).take (k + 1))) := by
      have e := flat_snoc (prH s ++ prE s ++ [wrT pulS s.pl] ++ (prF s).take k) (flT x).data.toList
      rw [mkB_data] at e
      rw [e, htk, ← List.append_assoc]
     refine awp_skip ?_
     change Awp _ _ _ _ _
     refine awp_seq ?_
     refine awp_block ?_
     refine xa 10 ?_
     refine rg_q (q_m rfl) (rg_q (q_fieldAddr fld32_2 rfl) (rg_q (q_load sz30 rfl rfl) (rg_q (q_m rfl) ?_)))
     refine rg_q (q_indexAddr sl30 rfl rfl (by omega) (map_at (by omega) hx)) ?_
     refine rg_q (q_loadA (ds := [_, _, _, _, _, _, _, _]) sz39 rfl rfl rfl) ?_
     refine rg_q (q_call en8 (.cons rfl .nil) rfl (rformatFlaw_p x hxi)) ?_
     refine rg_q (q_adds rfl rfl (by omega)) ?_
     refine rg_q (q_adds rfl rfl (by omega)) ?_
     refine rg_q (q_a rfl) ?_
     refine rn ?_
     change Awp _ _ _ _ _
     refine xa 3 ?_
     refine rg_q (q_m rfl) ?_
     refine rg_q (q_add rfl rfl xi) ?_
     refine rg_q (q_a rfl) ?_
     refine rn ?_
     refine ⟨k + 1, by omega, by omega, ?_⟩
     exact xh (ms := []) (by repeat (first | exact Out.head rfl rfl | (refine Out.put ?_ rfl))) ⟨(by rfl), (by (exact congrArg (fun b => T.d (.v (.string b))) hst)), trivial⟩ trivial
    ·
     (try simp only [nb, ne_eq] at hc8)
     have hkn : k = s.fl.length := by (try simp only [List.length_map] at hc8); omega
     have hfin : mkB (flat (prH s ++ prE s ++ [wrT pulS s.pl] ++ (prF s).take k)) = prT s := by rw [hkn, ← hFl, List.take_length]; rfl
     refine awp_exit ?_
     change Awp _ _ _ _ _
     refine awp_seq ?_
     refine xa 2 ?_
     refine rg_q (q_m rfl) (rg_q (q_a rfl) ?_)
     refine xc (awp_ret ?_)
     refine ⟨_, xk1, ?_⟩
     rw [hfin]; rfl
end Go.Proofs.YtkbdnkjjklbddaaGreatDoor.Am.M
