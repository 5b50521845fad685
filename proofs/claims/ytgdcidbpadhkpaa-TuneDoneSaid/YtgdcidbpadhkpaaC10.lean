/- Contracts over the abstract machine: ranges of the reference of tables; the plain law of echoes. Conditions: none. -/
import Derived.Test.YtgdcidbpadhkpaaC9
set_option linter.unusedVariables false
set_option linter.unusedSimpArgs false
-- mini
namespace Go.Proofs.Ytgdcidbpadhkpaa.Am.M
open Go

def encS (x : Int × Int) : Int × Int := (x.1 / x.2, ceilI x.1 x.2)
theorem refQ_in {l : List (Int × Int)} {d : Int} (hck0 : (ckT l).2 = 0) (hd : depE l d = 0) : 1 ≤ (refQ l d).1 ∧ (refQ l d).1 ≤ 200000000000 ∧ 1 ≤ (refQ l d).2 ∧ (refQ l d).2 ≤ 100000 ∧ (echoS l d).2 = 0 ∧ ∃ c : Int, 1 ≤ c ∧ (echoS l d).1 = (c * (refQ l d).1, c * (refQ l d).2) := by
  have hT := ckT_tab hck0
  obtain ⟨d1, d2, d3, d4⟩ := depE_in hd
  have hpos := hT.pos
  obtain ⟨x0, hx0⟩ : ∃ x, l[0]? = some x := ⟨_, List.getElem?_eq_getElem hpos⟩
  obtain ⟨z, hz⟩ : ∃ z, l[l.length - 1]? = some z := ⟨_, List.getElem?_eq_getElem (by omega)⟩
  rw [getD_at hx0] at d3
  rw [getD_at hz] at d4
  have hck : (ckT l).2 = 0 := hck0
  have he : 0 ≤ idxOf (atD d) 0 l := by
    have := idxOf_mem (atD d) l
    rw [List.any_eq_true.2 ⟨z, List.mem_of_getElem? hz, by simpa using d4⟩] at this
    simpa using this
  obtain ⟨k, e, ⟨x, hx, hf⟩, hn⟩ := idxOf_first _ _ _ he
  simp only [Nat.zero_add, decide_eq_true_eq, decide_eq_false_iff_not, atD] at e hf hn
  have hk : k < l.length := (List.getElem?_eq_some_iff.1 hx).1
  have hxr := hT.rows x (List.mem_of_getElem? hx)
  obtain ⟨a1, a2, a3, a4⟩ := hxr
  have hS : echoS l d = (if ((k : Int) < 0 ∨ ((k : Int) = 0 ∧ d < x0.1)) then ((0, 0), 12) else (betw (l.getD ((k : Int) - 1).toNat (0, 0)) (l.getD ((k : Int)).toNat (0, 0)) d, 0)) := by
    unfold echoS
    rw [if_neg (by simpa using hck), if_neg (by simp [inR]; omega)]
    rw [show (fun x : Int × Int => decide (d ≤ x.1)) = atD d from rfl, e, getD_at hx0]
  rw [if_neg (by omega), show ((k : Int)).toNat = k from rfl, getD_at hx] at hS
  by_cases hk0 : k = 0
  · subst hk0
    obtain rfl : x0 = x := by rw [hx0] at hx; exact Option.some.inj hx
    rw [show (((0 : Nat) : Int) - 1).toNat = 0 from rfl, getD_at hx0] at hS
    have hq := refQ_at (d := d) hT hx0 (by omega)
    rw [hS, hq]
    refine ⟨a3, by simp only; omega, by simp, by simp, rfl, 1, by omega, ?_⟩
    unfold betw; rw [if_pos rfl]; simp
  · obtain ⟨y, hy⟩ : ∃ y, l[k - 1]? = some y := ⟨_, List.getElem?_eq_getElem (by omega)⟩
    obtain ⟨b1, b2, b3, b4⟩ := hT.rows y (List.mem_of_getElem? hy)
    have hyx := asc_lt hT.asc hy hx (by omega)
    have hyd := hn (k - 1) (by omega) y hy
    rw [show ((k : Int) - 1).toNat = k - 1 by omega, getD_at hy] at hS
    rw [hS]
    have hb : betw y x d = (y.2 * (x.1 - y.1) + (x.2 - y.2) * (d - y.1), x.1 - y.1) := by unfold betw; rw [if_neg (fun e => by rw [e] at hyx; omega)]
    by_cases hxd : x.1 = d
    · have hq := refQ_at (d := d) hT hx hxd
      rw [hq, hb]
      refine ⟨a3, by simp only; omega, by simp, by simp, rfl, x.1 - y.1, by omega, ?_⟩
      subst hxd
      refine Prod.ext ?_ ?_
      · simp only; grind
      · simp
    · have hq := refQ_mid (d := d) (k := k - 1) hT hy (by rw [show k - 1 + 1 = k by omega]; exact hx) (by omega) (by omega)
      have m1 := mulb (a := y.2) (b := (x.1 - y.1) - (d - y.1)) (A := 1000000) (B := 100000) (by omega) (by omega) (by omega) (by omega)
      have m2 := mulb (a := x.2) (b := d - y.1) (A := 1000000) (B := 100000) (by omega) (by omega) (by omega) (by omega)
      have k1 : 0 * ((x.1 - y.1) - (d - y.1)) ≤ y.2 * ((x.1 - y.1) - (d - y.1)) := Int.mul_le_mul_of_nonneg_right (by omega) (by omega)
      have k2 : 1 * (d - y.1) ≤ x.2 * (d - y.1) := Int.mul_le_mul_of_nonneg_right a3 (by omega)
      rw [hq, hb]
      refine ⟨by simp only; omega, by simp only; omega, by simp only; omega, by simp only; omega, rfl, 1, by omega, ?_⟩
      refine Prod.ext ?_ ?_
      · simp only; grind
      · simp
theorem encS_scale {c n m : Int} (hc : 1 ≤ c) : encS (c * n, c * m) = encS (n, m) := by
  unfold encS ceilI
  simp only
  rw [Int.mul_ediv_mul_of_pos _ _ (by omega), ← Int.mul_neg, Int.mul_ediv_mul_of_pos _ _ (by omega)]

theorem echo_dep {l : List (Int × Int)} {d : Int} (hck : (ckT l).2 = 0) : (echoS l d).2 = depE l d := by
  by_cases hd : depE l d = 0
  · rw [(refQ_in hck hd).2.2.2.2.1, hd]
  · have hT := ckT_tab hck
    have hpos := hT.pos
    obtain ⟨x0, hx0⟩ : ∃ x, l[0]? = some x := ⟨_, List.getElem?_eq_getElem hpos⟩
    obtain ⟨z, hz⟩ : ∃ z, l[l.length - 1]? = some z := ⟨_, List.getElem?_eq_getElem (by omega)⟩
    unfold depE at hd ⊢
    unfold echoS
    rw [if_neg (by simpa using hck)]
    by_cases hr : inR 0 d 100000 = false
    · rw [if_pos hr, if_pos hr]
    · rw [if_neg hr] at hd ⊢
      rw [if_neg hr]
      rw [getD_at hx0, getD_at hz] at hd ⊢
      by_cases hq : inR x0.1 d z.1 = false
      · rw [if_pos hq]
        simp only
        rw [if_pos]
        simp [inR] at hq
        by_cases hlo : x0.1 ≤ d
        · left
          rw [idxOf_none]
          · omega
          · intro u hu
            obtain ⟨i, hi⟩ := List.getElem?_of_mem hu
            have hil := (List.getElem?_eq_some_iff.1 hi).1
            have : u.1 ≤ z.1 := by
              by_cases he : i = l.length - 1
              · subst he; rw [hi] at hz; cases hz; omega
              · have := asc_lt hT.asc hi hz (by omega); omega
            have := hq hlo
            simp; omega
        · right
          refine ⟨?_, by omega⟩
          exact idxOf_eq _ l 0 0 x0 hx0 (by simp; omega) fun j hj => by omega
      · rw [if_neg hq] at hd; exact absurd rfl hd
theorem rng_law {l : List (Int × Int)} {d : Int} (hck : (ckT l).2 = 0) (hd : depE l d = 0) : rngS (echoS l d) = (encS (refQ l d), 0) := by
  obtain ⟨_, _, _, _, h0, c, hc, hs⟩ := refQ_in hck hd
  have e : rngS (echoS l d) = (encS (echoS l d).1, 0) := by unfold rngS; rw [if_neg (by simpa using h0)]; rfl
  rw [e, hs, encS_scale hc]
theorem rng_bad {l : List (Int × Int)} {d : Int} (h : (echoS l d).2 ≠ 0) : rngS (echoS l d) = ((0, 0), (echoS l d).2) := by unfold rngS; rw [if_pos h]
theorem gain_law {l : List (Int × Int)} {d t k : Int} (hck : (ckT l).2 = 0) (hd : depE l d = 0) (ht : echoE t = 0) : gainS (echoS l d) t k = (encS (k * t * (refQ l d).2, (refQ l d).1), 0) := by
  obtain ⟨_, _, _, _, h0, c, hc, hs⟩ := refQ_in hck hd
  have e : gainS (echoS l d) t k = (encS (k * t * (echoS l d).1.2, (echoS l d).1.1), 0) := by unfold gainS rngS; rw [if_neg (by simpa using h0), if_neg (by simpa using ht)]; rfl
  rw [e, hs]
  simp only
  rw [show k * t * (c * (refQ l d).2) = c * (k * t * (refQ l d).2) by grind, encS_scale hc]
theorem gain_bad {l : List (Int × Int)} {d t k : Int} (h : (echoS l d).2 ≠ 0) : gainS (echoS l d) t k = ((0, 0), (echoS l d).2) := by unfold gainS; rw [if_pos h]
theorem gain_bad2 {l : List (Int × Int)} {d t k : Int} (h : (echoS l d).2 = 0) (ht : echoE t ≠ 0) : gainS (echoS l d) t k = ((0, 0), 2) := by unfold gainS; rw [if_neg (by simpa using h), if_pos ht]
set_option maxRecDepth 100000 in
theorem rEchoAt_p (l : List (Int × Int)) (d : Int) (hck : (ckT l).2 = 0) (hd : depE l d = 0) : PC Try.prog 38 [.sl 2 (l.map rowC), .v (.int .i64 (d))] (.agg (shC (encS (refQ l d)))) := by
  obtain ⟨q1, q2, q3, q4, -, -⟩ := refQ_in hck hd
  have hT := ckT_tab hck
  have hcq := echo_p l d hT hd
  generalize hS : refQ l d = S at *
  obtain ⟨n, m⟩ := S
  simp only at q1 q2 q3 q4
  refine pc_of_awp Try.func38 rfl Try.ntmps38 (rs := [.cell 4 52]) Try.results38 (by simp) fun w0 => ?_
  refine awp_seq ?_
  refine awp_region 0 mixed (by kernel_rfl) ?_
  refine rg_nil ?_
  refine aops_alloc zr52 rfl rfl rfl ?_
  refine aops_nil ?_
  change Awp _ _ _ _ _
  refine awp_seq ?_
  refine awp_region 4 mixed (by kernel_rfl) ?_
  refine rg_q (q_move (x := .d (.sl _ _)) rfl) ?_
  refine rg_q (q_move (x := .d (.v _)) rfl) ?_
  refine rg_q (q_call en75 (.cons rfl (.cons rfl .nil)) rfl (hcq)) ?_
  refine rg_q (q_call en90 (.cons rfl .nil) rfl (Enclosed_p (n, m) ⟨by simp only; omega, by simp only; omega⟩ (by simp only; omega))) ?_
  refine rg_nil ?_
  refine aops_store sz52 rfl rfl (by exact .inr ⟨_, rfl⟩) rfl rfl (by decide) rfl ?_
  refine aops_nil ?_
  change Awp _ _ _ _ _
  refine awp_ret ?_
  refine ⟨_, (.cons (.cellA rfl rfl sz52 rfl) .nil), ?_⟩
  rfl
set_option maxRecDepth 100000 in
theorem rGainAt_p (l : List (Int × Int)) (d t : Int) (hck : (ckT l).2 = 0) (hd : depE l d = 0) (ht : echoE t = 0) : PC Try.prog 40 [.sl 2 (l.map rowC), .v (.int .i64 (d)), .v (.int .i64 (t))] (.agg (shC (encS (1000 * t * (refQ l d).2, (refQ l d).1)))) := by
  obtain ⟨q1, q2, q3, q4, -, -⟩ := refQ_in hck hd
  have hT := ckT_tab hck
  have hcq := echo_p l d hT hd
  generalize hS : refQ l d = S at *
  obtain ⟨n, m⟩ := S
  simp only at q1 q2 q3 q4
  obtain ⟨t1, t2⟩ := echoE_in ht
  have m0 := mulb (a := 1000 * t) (b := m) (A := 1000000000) (B := 100000) (by omega) (by omega) (by omega) (by omega)
  refine pc_of_awp Try.func40 rfl Try.ntmps40 (rs := [.cell 6 52]) Try.results40 (by simp) fun w0 => ?_
  refine awp_seq ?_
  refine awp_region 0 mixed (by kernel_rfl) ?_
  refine rg_nil ?_
  refine aops_alloc zr52 rfl rfl rfl ?_
  refine aops_nil ?_
  change Awp _ _ _ _ _
  refine awp_seq ?_
  refine awp_region 3 mixed (by kernel_rfl) ?_
  refine rg_q (q_move (x := .d (.sl _ _)) rfl) ?_
  refine rg_q (q_move (x := .d (.v _)) rfl) ?_
  refine rg_q (q_call en75 (.cons rfl (.cons rfl .nil)) rfl (hcq)) ?_
  refine rg_nil ?_
  refine aops_alloc zr116 rfl rfl rfl ?_
  refine aops_store sz116 rfl rfl (by exact .inr ⟨_, rfl⟩) rfl rfl (by decide) rfl ?_
  refine aops_nil ?_
  change Awp _ _ _ _ _
  refine awp_seq ?_
  refine awp_region 9 mixed (by kernel_rfl) ?_
  refine rg_q (q_move (x := .d (.v _)) rfl) ?_
  refine rg_q (q_mul rfl rfl (In64.mk (by omega) (by omega))) ?_
  refine rg_q (q_fieldAddr_ref fld116_1 rfl) ?_
  refine rg_q (q_load_ref sz3 rfl rfl rfl) ?_
  refine rg_q (q_mul rfl rfl (In64.mk (by simp only; omega) (by simp only; omega))) ?_
  refine rg_q (q_fieldAddr_ref fld116_0 rfl) ?_
  refine rg_q (q_load_ref sz3 rfl rfl rfl) ?_
  refine rg_q (q_build (cs := [_, _]) pl116 zr116 rfl (.cons rfl (by exact .inl rfl) (.cons rfl (by exact .inl rfl) .nil)) ⟨⟨rfl, by decide⟩, ⟨rfl, by decide⟩, trivial⟩ rfl) ?_
  refine rg_q (q_call en90 (.cons rfl .nil) rfl (Enclosed_p (1000 * t * m, n) ⟨by simp only; omega, by simp only; omega⟩ (by simp only; omega))) ?_
  refine rg_nil ?_
  refine aops_store sz52 rfl rfl (by exact .inr ⟨_, rfl⟩) rfl rfl (by decide) rfl ?_
  refine aops_nil ?_
  change Awp _ _ _ _ _
  refine awp_ret ?_
  refine ⟨_, (.cons (.cellA rfl rfl sz52 rfl) .nil), ?_⟩
  rfl
end Go.Proofs.Ytgdcidbpadhkpaa.Am.M
