/- Contracts over the abstract machine: texts: rules for strings; decimal texts, numbers and cuts of the base. Conditions: none. -/
import Derived.Test.YtkbdnkjjklbddaaGreatDoorB2
import Derived.Laws.IdiomStrings
import Derived.Laws.Strings2
import Derived.Lib.ItoaLen
set_option linter.unusedVariables false
set_option linter.unusedSimpArgs false
-- mini
set_option maxRecDepth 100000
namespace Go.Proofs.YtkbdnkjjklbddaaGreatDoor.Am.M
open Go

section
variable {P : Program} {w0 : Cx} {n : Nat} {s : Nat → Site} {ev : Operand → T} {dst : Option Tmp} {ty : TypeId} {pos : String} {after : Array Edge} {g : Option (Nat × Bool)}
theorem q_adds {t t' : TypeId} {x y : Operand} {a b : ByteArray} (hx : ev x = .d (.v (.string a))) (hy : ev y = .d (.v (.string b))) (h : a.size + b.size ≤ 1000000) : QOp P w0 n s ev ⟨dst, .binOp .add t x y t', ty, pos, after, g⟩ (.d (.v (.string (a ++ b)))) :=
  q_bin hx hy (fun w => by
    have hn : ¬ ((a.size + b.size : Nat) : Int) > IntKind.i64.max := by
      have : IntKind.i64.max = 9223372036854775807 := by decide
      omega
    simp [eqGuard, binOp, Op.stringOp]
    omega) rfl
theorem q_sliceS {t : TypeId} {y : Operand} {l h : Option Operand} {b : ByteArray} {lo hi : Nat} (ht : isStr P t = true) (hy : ev y = .d (.v (.string b))) (hl : boundOk ev l 0 lo) (hh : boundOk ev h b.size hi) (h1 : lo ≤ hi) (h2 : hi ≤ b.size) :
    QOp P w0 n s ev ⟨dst, .slice t y l h none, ty, pos, after, g⟩ (.d (.v (.string (b.extract lo hi)))) :=
  .mk fun a w ok blk val hv _ hnew => by
    have hval : a.eval y = .string b := RepT.v_eq (hy ▸ hv y)
    have hb := run_bounds (P := P) (w := w) (cap := b.size) hv hl hh h1 h2 (Nat.le_refl _) false
    refine ⟨.string (b.extract lo hi), w, ?_, Ext.refl w, .v _ rfl⟩
    simp only [execOp, Instr.sliceAt, Sem.run_bind, run_underlying (isStr_under ht), Result.andThen_ok, Instr.slice, hval, Option.map_none]
    simp [hb]
theorem q_strb {t e t' : TypeId} {y : Operand} {l : List UInt8} (h1 : slB P t e 1 = true) (h2 : intB P e .u8 = true) (h3 : isStr P t' = true) (hy : ev y = .d (.sl 1 (l.map bC))) (hl : l ≠ []) : QOp P w0 n s ev ⟨dst, .convert t t' y, ty, pos, after, g⟩ (.d (.v (.string (mkB l)))) :=
  .mk fun a w ok blk val hv _ hnew => by
    obtain ⟨A, cap, hval, hn, hcap, hsz, hs, hrest⟩ := sl_inv (show Rep w _ (.sl 1 (l.map bC)) (a.eval y) by have := hv y; rw [hy] at this; exact this)
    rcases hrest with e0 | ⟨b, off, vs, hA, hb, hok, hc, hr⟩
    · exact absurd (List.map_eq_nil_iff.1 e0) hl
    · subst hA
      rw [List.length_map] at hval
      have hrun := run_convert_bytes_back (P := P) w t t' e ⟨b, off, none⟩ cap l (slB_under h1) (intB_under h2) (isStr_under h3) (fun j hj => by
        have q1 : (l.map bC)[j]? = some (bC l[j]) := by rw [List.getElem?_map, List.getElem?_eq_getElem hj]; rfl
        have q2 := hc j _ 0 _ q1 rfl
        have q3 := Rep.v_eq (hr j _ 0 _ q1 rfl)
        rw [q3, Nat.mul_one, Nat.add_zero] at q2
        rw [addr_add]; exact q2)
      exact ⟨_, w, by simp only [execOp, hval, Sem.run_bind, hrun]; rfl, Ext.refl w, .v _ rfl⟩
end
section
variable {P : Program} {w0 : Cx} {ops : List Oper} {rest : List Oper} {R : Exit → St → Prop} {st : St} {ty : TypeId} {pos : String} {after : Array Edge}
theorem aops_one {d : Nat} {t e : Nat} {z u : Value} {y : Operand} (ht : slB P t e 1 = true) (hz : zrB P e z) (hzs : z.cells.size = 1) (hy : st.ev y = .d (.v u)) (hu : u.cells = #[u]) (h1 : u.oneCell' = true) (hd : Nat.blt d st.n = true) (hs : st.s d = .no)
    (h : Aops P w0 ops rest R ((st.site d (.row e 1 [[.v u]])).put (some d) (.rs d))) : Aops P w0 ops (⟨some d, .buildSlice t 1 #[(0, y)], ty, pos, after, none⟩ :: rest) R st := by
  refine aops_step (K := fun s => s = (st.site d (.row e 1 [[.v u]])).put (some d) (.rs d)) rfl (fun a w ⟨blk, val, hh⟩ => ?_) (fun _ e => e ▸ h)
  obtain ⟨i, hi, hsi⟩ := slB_info ht
  have hv : a.eval y = u := by
    have := hh.ev y
    rw [hy] at this
    exact Rep.v_eq (show Rep w _ (.v u) (a.eval y) from this)
  have hr1 : Array.range 1 = #[0] := rfl
  refine wp_value (v := .slice (some ⟨w.heap.size, 0, none⟩) 1 1) (w' := w.alloc (.cells #[u] e)) (by
    simp [execOp, Instr.buildSlice, run_underlying (slB_under ht), sizeOf, my_typeInfo hi, hsi, hr1, run_zero hz, Instr.fill, newRow, hv, hu, hzs]) ⟨_, rfl, ?_⟩
  have hH := hh.allocSite (k := d) (x := .row e 1 [[.v u]]) (u := .slice (some ⟨w.heap.size, 0, none⟩) 1 1) (o := .cells #[u] e) hs ⟨fun i x hx => (by
      match i, hx with
      | 0, hx => cases hx; rfl), fun i x j y hx hy => (by
      match i, hx with
      | 0, hx =>
        cases hx
        match j, hy with
        | 0, hy => cases hy; rfl), .inr ⟨w.heap.size, #[u], 1, rfl, rfl, Nat.le_refl _, by simp [maxLen], new_block _ _, by simp, fun i x j y hx hy => (by
      match i, hx with
      | 0, hx =>
        cases hx
        match j, hy with
        | 0, hy => cases hy; exact ⟨u, rfl, .v u h1⟩)⟩⟩
  exact ⟨_, _, put_hold hH (by simpa [Nat.blt_eq, St.site] using hd) ⟨⟨e, 1, _, by simp [St.site]; rfl⟩, by simp⟩⟩
end

def decP (u : Nat) : List UInt8 := if u = 0 then [] else Lib.decDigits u
theorem decP_step {u : Nat} (h : u ≠ 0) : decP u = decP (u / 10) ++ [UInt8.ofNat (48 + u % 10)] := by
  unfold decP
  rw [if_neg h]
  by_cases h1 : u < 10
  · rw [if_pos (by omega), Lib.decDigits_one h1, show u % 10 = u by omega]; rfl
  · rw [if_neg (by omega), dd_big h1]
theorem decP_len {u : Nat} (h : u < 18446744073709551616) : (decP u).length ≤ 20 := by
  unfold decP
  split
  · simp
  · rw [Lib.decDigits_length]; exact Lib.nDigits_le20 u h
theorem itoa_decP {n : Int} (h : n ≠ 0) : Lib.itoa n = (if n < 0 then [45] else []) ++ decP n.natAbs := by
  unfold Lib.itoa decP
  rw [if_neg (show n.natAbs ≠ 0 by omega)]
  by_cases h1 : n < 0
  · rw [if_pos h1, if_pos h1]; rfl
  · rw [if_neg h1, if_neg h1, show n.toNat = n.natAbs by omega]; rfl
theorem u8_dig {d : Nat} (h : d < 10) : IntKind.u8.wrap (48 + (d : Int)) = ((UInt8.ofNat (48 + d)).toNat : Int) := by
  rw [UInt8.toNat_ofNat']
  have : IntKind.u8.wrap (48 + (d : Int)) = 48 + (d : Int) := by
    match d, h with
    | 0, _ => decide
    | 1, _ => decide
    | 2, _ => decide
    | 3, _ => decide
    | 4, _ => decide
    | 5, _ => decide
    | 6, _ => decide
    | 7, _ => decide
    | 8, _ => decide
    | 9, _ => decide
  rw [this]; omega
theorem decimal_p (n : Int) (h : In64 n) : PC Tryz.prog 61 [.v (.int .i64 (n))] (.v (.string (mkB (Lib.itoa n)))) := by
 refine pc_of_awp Tryz.func61 rfl Tryz.ntmps61 (rs := [.tmp 2]) Tryz.results61 (by simp) fun w0 => ?_
 refine awp_seq ?_
 refine xa 1 ?_
 refine rg_q (q_a rfl) ?_
 refine rs (awp_seq ?_)
 refine xa 2 ?_
 refine rg_q (q_m rfl) (rg_q (q_eql rfl rfl) ?_)
 refine xc (awp_cond rfl (fun hc1 => ?_) (fun hc1 => ?_))
 ·
  (try simp only [nb, ne_eq] at hc1)
  subst hc1
  have hz : mkB (Lib.itoa 0) = ⟨#[48]⟩ := by rw [show Lib.itoa 0 = [48] from (by unfold Lib.itoa; rw [if_neg (by decide)]; simp [Lib.decDigits])]; rfl
  refine awp_seq ?_
  refine xa 1 ?_
  refine rg_q (q_a rfl) ?_
  refine xc (awp_ret ?_)
  refine ⟨_, xk1, ?_⟩
  rw [hz]; rfl
 ·
  (try simp only [nb, ne_eq] at hc1)
  have hid := itoa_decP (n := n) hc1
  refine awp_skip ?_
  change Awp _ _ _ _ _
  refine awp_seq ?_
  refine xa 2 ?_
  refine rg_q (q_a rfl) (rg_q (q_a rfl) ?_)
  refine rs (awp_seq ?_)
  refine xa 2 ?_
  refine rg_q (q_m rfl) (rg_q (q_lss rfl rfl) ?_)
  refine xc (awp_cond rfl (fun hc4 => ?_) (fun hc4 => ?_))
  ·
   (try simp only [nb, ne_eq] at hc4)
   rw [if_pos hc4] at hid
   refine xa 1 ?_
   refine rg_q (q_a rfl) ?_
   refine rs (awp_block ?_)
   refine awp_loopH [0, 3, 5, 10, 11, 12, 13, 14, 15, 16, 17, 18, 19, 20, 21, 22, 23] [] (α := Int × List UInt8) (fun y => [(0, T.i y.1), (3, .d (.v (.string (mkB y.2))))]) (fun y => []) (fun y => decP n.natAbs = decP y.1.natAbs ++ y.2 ∧ y.1.natAbs ≤ n.natAbs) (fun y => y.1.natAbs) (n, []) ⟨by simp, Nat.le_refl _⟩ ?_ ?_
   · exact xh (ms := []) (by repeat (exact Out.refl _)) ⟨(by rfl), (by rfl), trivial⟩ trivial
   ·
    intro y ⟨hI, hle⟩
    refine awp_seq ?_
    refine awp_seq ?_
    refine xa 2 ?_
    refine rg_q (q_m rfl) (rg_q (q_neq rfl rfl) ?_)
    refine xc (awp_cond rfl (fun hc6 => ?_) (fun hc6 => ?_))
    ·
     (try simp only [nb, ne_eq] at hc6)
     obtain ⟨m, t⟩ := y
     simp only at hI hle hc6
     have hm : m.natAbs ≠ 0 := by omega
     have hst := decP_step hm
     have hdm : (m.tdiv 10).natAbs = m.natAbs / 10 := by rw [Int.natAbs_tdiv]; rfl
     have hmm : (m.tmod 10).natAbs = m.natAbs % 10 := by rw [Int.natAbs_tmod]; rfl
     have hlt : m.natAbs % 10 < 10 := Nat.mod_lt _ (by decide)
     have hlen := congrArg List.length hI
     rw [List.length_append] at hlen
     have hln := decP_len (u := n.natAbs) (by obtain ⟨q1, q2⟩ := h; omega)
     have hsz := mkB_size t
     have hsz1 := mkB_size [UInt8.ofNat (48 + m.natAbs % 10)]
     simp only [List.length_cons, List.length_nil] at hsz1
     obtain ⟨q1, q2⟩ := h
     have hd1 : (m.tmod 10) ≤ 9 := by omega
     have hd2 : -9 ≤ (m.tmod 10) := by omega
     have hwr : IntKind.u8.wrap (48 + max (m.tmod 10) (-(m.tmod 10))) = ((UInt8.ofNat (48 + m.natAbs % 10)).toNat : Int) := by rw [show max (m.tmod 10) (-(m.tmod 10)) = ((m.natAbs % 10 : Nat) : Int) by omega]; exact u8_dig hlt
     refine awp_skip ?_
     change Awp _ _ _ _ _
     refine awp_block ?_
     refine awp_seq ?_
     refine xa 3 ?_
     refine rg_q (q_m rfl) ?_
     refine rg_q (q_rem rfl rfl (by omega)) ?_
     refine rg_q (q_a rfl) ?_
     refine rs (xa 9 ?_)
     refine rg_q (q_m rfl) ?_
     refine rg_q (q_call en92 (.cons rfl .nil) rfl (size4_p _ (by (simp only; omega)) (by (simp only; omega)))) ?_
     refine rg_q (q_add rfl rfl (In64.mk (by omega) (by (simp only; omega)))) ?_
     refine rg_q (q_convE int3 int5 rfl hwr) ?_
     refine rg_q (q_buildSlice sl136 zr5 rfl rfl (by decide) (.cons rfl (by exact .inl rfl) .nil) ⟨rfl, rfl, trivial⟩ rfl (by decide) rfl) ?_
     refine rg_q (q_strb (l := [UInt8.ofNat (48 + m.natAbs % 10)]) sl136 int5 str9 rfl (by simp)) ?_
     refine rg_q (q_m rfl) ?_
     refine rg_q (q_adds rfl rfl (by (simp only; omega))) ?_
     refine rg_q (q_a rfl) ?_
     refine rn ?_
     change Awp _ _ _ _ _
     refine xa 3 ?_
     refine rg_q (q_m rfl) ?_
     refine rg_q (q_quo rfl rfl (by omega) (In64.mk (by (simp only; omega)) (by (simp only; omega)))) ?_
     refine rg_q (q_a rfl) ?_
     refine rn ?_
     refine ⟨(m.tdiv 10, UInt8.ofNat (48 + m.natAbs % 10) :: t), ⟨by rw [hI, hst, hdm]; simp, by simp only; omega⟩, by simp only; omega, ?_⟩
     exact xh (ms := []) (by repeat (first | exact Out.head rfl rfl | (refine Out.put ?_ rfl))) ⟨(by rfl), (by rfl), trivial⟩ trivial
    ·
     (try simp only [nb, ne_eq] at hc6)
     obtain ⟨m, t⟩ := y
     simp only at hI hle hc6
     have hm0 : m.natAbs = 0 := by omega
     have ht : decP n.natAbs = t := by rw [hI, hm0]; rfl
     have hsz := mkB_size t
     have hlen := congrArg List.length ht
     have hln := decP_len (u := n.natAbs) (by obtain ⟨q1, q2⟩ := h; omega)
     have hsz45 : (⟨#[45]⟩ : ByteArray).size = 1 := rfl
     have hsz0 : (⟨#[]⟩ : ByteArray).size = 0 := rfl
     refine awp_exit ?_
     change Awp _ _ _ _ _
     refine awp_seq ?_
     refine xa 4 ?_
     refine rg_q (q_m rfl) (rg_q (q_m rfl) ?_)
     refine rg_q (q_adds rfl rfl (by (simp only; omega))) ?_
     refine rg_q (q_a rfl) ?_
     refine xc (awp_ret ?_)
     refine ⟨_, xk1, ?_⟩
     rw [hid, ht]
     (show D.v _ = D.v (.string (mkB [45] ++ mkB t)); rw [mkB_app])
  ·
   (try simp only [nb, ne_eq] at hc4)
   rw [if_neg (by omega)] at hid
   refine awp_skip ?_
   change Awp _ _ _ _ _
   refine awp_seq ?_
   refine awp_block ?_
   refine awp_loopH [0, 3, 5, 10, 11, 12, 13, 14, 15, 16, 17, 18, 19, 20, 21, 22, 23] [] (α := Int × List UInt8) (fun y => [(0, T.i y.1), (3, .d (.v (.string (mkB y.2))))]) (fun y => []) (fun y => decP n.natAbs = decP y.1.natAbs ++ y.2 ∧ y.1.natAbs ≤ n.natAbs) (fun y => y.1.natAbs) (n, []) ⟨by simp, Nat.le_refl _⟩ ?_ ?_
   · exact xh (ms := []) (by repeat (exact Out.refl _)) ⟨(by rfl), (by rfl), trivial⟩ trivial
   ·
    intro y ⟨hI, hle⟩
    refine awp_seq ?_
    refine awp_seq ?_
    refine xa 2 ?_
    refine rg_q (q_m rfl) (rg_q (q_neq rfl rfl) ?_)
    refine xc (awp_cond rfl (fun hc6 => ?_) (fun hc6 => ?_))
    ·
     (try simp only [nb, ne_eq] at hc6)
     obtain ⟨m, t⟩ := y
     simp only at hI hle hc6
     have hm : m.natAbs ≠ 0 := by omega
     have hst := decP_step hm
     have hdm : (m.tdiv 10).natAbs = m.natAbs / 10 := by rw [Int.natAbs_tdiv]; rfl
     have hmm : (m.tmod 10).natAbs = m.natAbs % 10 := by rw [Int.natAbs_tmod]; rfl
     have hlt : m.natAbs % 10 < 10 := Nat.mod_lt _ (by decide)
     have hlen := congrArg List.length hI
     rw [List.length_append] at hlen
     have hln := decP_len (u := n.natAbs) (by obtain ⟨q1, q2⟩ := h; omega)
     have hsz := mkB_size t
     have hsz1 := mkB_size [UInt8.ofNat (48 + m.natAbs % 10)]
     simp only [List.length_cons, List.length_nil] at hsz1
     obtain ⟨q1, q2⟩ := h
     have hd1 : (m.tmod 10) ≤ 9 := by omega
     have hd2 : -9 ≤ (m.tmod 10) := by omega
     have hwr : IntKind.u8.wrap (48 + max (m.tmod 10) (-(m.tmod 10))) = ((UInt8.ofNat (48 + m.natAbs % 10)).toNat : Int) := by rw [show max (m.tmod 10) (-(m.tmod 10)) = ((m.natAbs % 10 : Nat) : Int) by omega]; exact u8_dig hlt
     refine awp_skip ?_
     change Awp _ _ _ _ _
     refine awp_block ?_
     refine awp_seq ?_
     refine xa 3 ?_
     refine rg_q (q_m rfl) ?_
     refine rg_q (q_rem rfl rfl (by omega)) ?_
     refine rg_q (q_a rfl) ?_
     refine rs (xa 9 ?_)
     refine rg_q (q_m rfl) ?_
     refine rg_q (q_call en92 (.cons rfl .nil) rfl (size4_p _ (by (simp only; omega)) (by (simp only; omega)))) ?_
     refine rg_q (q_add rfl rfl (In64.mk (by omega) (by (simp only; omega)))) ?_
     refine rg_q (q_convE int3 int5 rfl hwr) ?_
     refine rg_q (q_buildSlice sl136 zr5 rfl rfl (by decide) (.cons rfl (by exact .inl rfl) .nil) ⟨rfl, rfl, trivial⟩ rfl (by decide) rfl) ?_
     refine rg_q (q_strb (l := [UInt8.ofNat (48 + m.natAbs % 10)]) sl136 int5 str9 rfl (by simp)) ?_
     refine rg_q (q_m rfl) ?_
     refine rg_q (q_adds rfl rfl (by (simp only; omega))) ?_
     refine rg_q (q_a rfl) ?_
     refine rn ?_
     change Awp _ _ _ _ _
     refine xa 3 ?_
     refine rg_q (q_m rfl) ?_
     refine rg_q (q_quo rfl rfl (by omega) (In64.mk (by (simp only; omega)) (by (simp only; omega)))) ?_
     refine rg_q (q_a rfl) ?_
     refine rn ?_
     refine ⟨(m.tdiv 10, UInt8.ofNat (48 + m.natAbs % 10) :: t), ⟨by rw [hI, hst, hdm]; simp, by simp only; omega⟩, by simp only; omega, ?_⟩
     exact xh (ms := []) (by repeat (first | exact Out.head rfl rfl | (refine Out.put ?_ rfl))) ⟨(by rfl), (by rfl), trivial⟩ trivial
    ·
     (try simp only [nb, ne_eq] at hc6)
     obtain ⟨m, t⟩ := y
     simp only at hI hle hc6
     have hm0 : m.natAbs = 0 := by omega
     have ht : decP n.natAbs = t := by rw [hI, hm0]; rfl
     have hsz := mkB_size t
     have hlen := congrArg List.length ht
     have hln := decP_len (u := n.natAbs) (by obtain ⟨q1, q2⟩ := h; omega)
     have hsz45 : (⟨#[45]⟩ : ByteArray).size = 1 := rfl
     have hsz0 : (⟨#[]⟩ : ByteArray).size = 0 := rfl
     refine awp_exit ?_
     change Awp _ _ _ _ _
     refine awp_seq ?_
     refine xa 4 ?_
     refine rg_q (q_m rfl) (rg_q (q_m rfl) ?_)
     refine rg_q (q_adds rfl rfl (by (simp only; omega))) ?_
     refine rg_q (q_a rfl) ?_
     refine xc (awp_ret ?_)
     refine ⟨_, xk1, ?_⟩
     rw [hid, ht]
     (show D.v _ = D.v (.string (mkB [] ++ mkB t)); rw [mkB_app])

theorem byte_at {s : ByteArray} {k : Nat} {c : UInt8} (h : s.data.toList[k]? = some c) : s[k]? = some c := by
  have h1 : s.data[k]? = some c := by simpa using h
  obtain ⟨h2, h3⟩ := Array.getElem?_eq_some_iff.1 h1
  have hs : k < s.size := h2
  rw [getElem?_pos s k hs]
  exact congrArg some h3
theorem u8_small {d : Nat} (h : d < 10) : IntKind.i64.wrap (IntKind.u8.wrap (d : Int)) = (d : Int) := by
  match d, h with
  | 0, _ => decide
  | 1, _ => decide
  | 2, _ => decide
  | 3, _ => decide
  | 4, _ => decide
  | 5, _ => decide
  | 6, _ => decide
  | 7, _ => decide
  | 8, _ => decide
  | 9, _ => decide
theorem u8_eq {b : UInt8} {n : Nat} (hn : n < 256) : (b.toNat : Int) = (n : Int) ↔ b = UInt8.ofNat n := by
  constructor
  · intro h
    apply UInt8.toNat_inj.1
    rw [UInt8.toNat_ofNat']; omega
  · intro h; rw [h, UInt8.toNat_ofNat']; omega
theorem ext_mk (s : ByteArray) (a b : Nat) : s.extract a b = mkB ((s.data.toList.take b).drop a) := by
  rw [← mkB_data (s.extract a b), Lib.extract_data, List.drop_take]
theorem rnumber_p (s : ByteArray) (hs : s.size ≤ 100000) : PC Tryz.prog 93 [.v (.string (s)), .v (.int .i64 (13))] (.tup [.v (.int .i64 ((nmL s.data.toList).1)), .v (.bool (nmL s.data.toList).2)]) := by
  obtain ⟨L, hLd⟩ : ∃ L, L = s.data.toList := ⟨_, rfl⟩
  have hsl : s.size = L.length := by rw [hLd]; exact Lib.size_eq s
  rw [← hLd]
  obtain ⟨c0, hc0⟩ : ∃ c, 0 < L.length → L[0]? = some c := ⟨L.getD 0 0, fun h => by rw [List.getD_eq_getElem?_getD, List.getElem?_eq_getElem h]; rfl⟩
  have hi0 : 0 < L.length → s[(0 : Int).toNat]? = some c0 := fun h => byte_at (k := 0) (by rw [← hLd]; exact hc0 h)
  refine pc_of_awp Tryz.func93 rfl Tryz.ntmps93 (rs := [.tmp 4, .tmp 5]) Tryz.results93 (by simp) fun w0 => ?_
  refine awp_seq ?_
  refine xa 2 ?_
  refine rg_q (q_a rfl) (rg_q (q_a rfl) ?_)
  refine rs (xa 1 ?_)
  refine rg_q (q_a rfl) ?_
  refine rs (awp_seq ?_)
  refine xa 8 ?_
  refine rg_q (q_m rfl) ?_
  refine rg_q (q_len_str str9 rfl) ?_
  refine rg_q (q_gtr rfl rfl) (rg_q (q_m rfl) ?_)
  refine rg_g rfl rfl (fun hG => (q_m rfl)) ?_
  refine rg_g rfl rfl (fun hG => (q_index_str str9 rfl rfl (by (have hg0 := T.bool_inj (a := _) hG.1; (try simp only [nb, ne_eq] at hg0); omega)) (hi0 (by (have hg0 := T.bool_inj (a := _) hG.1; (try simp only [nb, ne_eq] at hg0); omega))))) ?_
  refine rg_g rfl rfl (fun hG => (q_eql rfl rfl)) ?_
  refine rg_pick rfl rfl rfl rfl rfl rfl ?_
  refine xc (awp_cond rfl (fun hc2 => ?_) (fun hc2 => ?_))
  ·
    (try simp only [nb, ne_eq] at hc2)
    obtain ⟨qa, hqa⟩ : ∃ qa : Nat, qa = 1 := ⟨1, rfl⟩
    have hu : c0 = UInt8.ofNat 45 := (u8_eq (by decide)).1 hc2.2
    obtain ⟨D, hLD⟩ : ∃ D, L = 45 :: D := by
      have h0 := hc0 (by omega)
      cases L with
      | nil => cases h0
      | cons x xs => exact ⟨xs, by have : x = c0 := Option.some.inj h0; rw [this, hu]; rfl⟩
    have hneg : negL L = true := by rw [hLD]; rfl
    have hdg : digL L = D := by unfold digL; rw [if_pos hneg, hLD]; rfl
    have hDl : L.length = D.length + 1 := by rw [hLD]; rfl
    obtain ⟨cA, hhd⟩ : ∃ c, 0 < D.length → D.head? = some c := by
      cases D with
      | nil => exact ⟨0, fun h => by cases h⟩
      | cons x xs => exact ⟨x, fun _ => rfl⟩
    have hcS : 0 < D.length → s[(1 : Int).toNat]? = some cA := fun h => byte_at (k := 1) (by rw [← hLd, hLD]; show D[0]? = some cA; rw [← List.head?_eq_getElem?]; exact hhd h)
    refine xa 1 ?_
    refine rg_q (q_a rfl) ?_
    refine rs (awp_seq ?_)
    refine xa 23 ?_
    refine rg_q (q_m rfl) ?_
    refine rg_q (q_len_str str9 rfl) ?_
    refine rg_q (q_m rfl) (rg_q (q_eql rfl rfl) (rg_q (q_m rfl) ?_))
    refine rg_g rfl rfl (fun hG => (q_m rfl)) ?_
    refine rg_g rfl rfl (fun hG => (q_len_str str9 rfl)) ?_
    refine rg_g rfl rfl (fun hG => (q_m rfl)) ?_
    refine rg_g rfl rfl (fun hG => (q_sub rfl rfl (In64.mk (by (have hg0 := T.bool_inj (a := _) hG.1; (try simp only [nb, ne_eq] at hg0); omega)) (by (have hg0 := T.bool_inj (a := _) hG.1; (try simp only [nb, ne_eq] at hg0); omega))))) ?_
    refine rg_g rfl rfl (fun hG => (q_m rfl)) ?_
    refine rg_g rfl rfl (fun hG => (q_gtr rfl rfl)) ?_
    refine rg_pick rfl rfl rfl rfl rfl rfl ?_
    refine rg_q (q_m rfl) ?_
    refine rg_g rfl rfl (fun hG => (q_m rfl)) ?_
    refine rg_g rfl rfl (fun hG => (q_m rfl)) ?_
    refine rg_g rfl rfl (fun hG => (q_index_str str9 rfl rfl (by (have hg0 := T.bool_inj (a := _) hG.1; (try simp only [nb, ne_eq] at hg0); omega)) (hcS (by (have hg0 := T.bool_inj (a := _) hG.1; (try simp only [nb, ne_eq] at hg0); omega))))) ?_
    refine rg_g rfl rfl (fun hG => (q_eql rfl rfl)) ?_
    refine rg_g rfl rfl (fun hG => (q_m rfl)) ?_
    refine rg_g rfl rfl (fun hG => (q_m rfl)) ?_
    refine rg_g rfl rfl (fun hG => (q_len_str str9 rfl)) ?_
    refine rg_g rfl rfl (fun hG => (q_gtr rfl rfl)) ?_
    refine rg_pickg rfl rfl rfl rfl rfl rfl rfl rfl ?_
    refine rg_pick rfl rfl rfl rfl rfl rfl ?_
    refine xc (awp_cond rfl (fun hc4 => ?_) (fun hc4 => ?_))
    ·
      (try simp only [nb, ne_eq] at hc4)
      have hbad : badL L := by
        unfold badL
        rw [hdg]
        rcases hc4 with (q | q) | ⟨q1, q2⟩
        · left; exact List.length_eq_zero_iff.1 (by omega)
        · right; left; omega
        · right; right
          have hu : cA = UInt8.ofNat 48 := (u8_eq (by decide)).1 q1
          exact ⟨by rw [hhd (by omega), hu]; rfl, by omega⟩
      have hz : nmL L = (0, false) := by unfold nmL; rw [if_pos hbad]
      refine awp_seq ?_
      refine xa 2 ?_
      refine rg_q (q_a rfl) (rg_q (q_a rfl) ?_)
      refine xc (awp_ret ?_)
      refine ⟨_, xk2, ?_⟩
      rw [hz]; rfl
    ·
      (try simp only [nb, ne_eq] at hc4)
      have hb : ¬ badL L := by
        unfold badL
        rw [hdg]
        rintro (q | q | ⟨q1, q2⟩)
        · have := congrArg List.length q
          simp only [List.length_nil] at this
          omega
        · omega
        · rw [hhd (by omega)] at q1
          have hu : cA = 48 := Option.some.inj q1
          have hv : (cA.toNat : Int) = 48 := by rw [hu]; rfl
          omega
      have hD9 : D.length ≤ 13 := by omega
      have hD0 : 0 < D.length := by omega
      refine awp_skip ?_
      change Awp _ _ _ _ _
      refine awp_seq ?_
      refine xa 1 ?_
      refine rg_q (q_a rfl) ?_
      refine rs (awp_seq ?_)
      refine xa 2 ?_
      refine rg_q (q_m rfl) (rg_q (q_a rfl) ?_)
      refine xc (awp_block ?_)
      refine awp_loopH [4, 5, 7, 8, 41, 42, 43, 44, 45, 46, 47, 48, 49, 50, 51, 52, 53, 54, 55, 56, 57, 58, 59, 60, 61, 62, 63, 64] [] (α := Nat × Nat) (fun y => [(8, T.i ((y.1 : Int) + (qa : Int))), (7, T.i (y.2 : Int))]) (fun y => []) (fun y => y.1 ≤ D.length ∧ Lib.decFrom 0 (D.take y.1) = some y.2) (fun y => D.length - y.1) (0, 0) ⟨Nat.zero_le _, rfl⟩ ?_ ?_
      · exact xh (ms := []) (by repeat (exact Out.refl _)) ⟨(by (show T.i _ = T.i _; congr 1; (try simp only); omega)), (by rfl), trivial⟩ trivial
      ·
        intro y ⟨hk, hf⟩
        refine awp_seq ?_
        refine awp_seq ?_
        refine xa 4 ?_
        refine rg_q (q_m rfl) (rg_q (q_m rfl) ?_)
        refine rg_q (q_len_str str9 rfl) ?_
        refine rg_q (q_lss rfl rfl) ?_
        refine xc (awp_cond rfl (fun hc8 => ?_) (fun hc8 => ?_))
        ·
          (try simp only [nb, ne_eq] at hc8)
          obtain ⟨k, m⟩ := y
          simp only at hk hf hc8
          have hlt : k < D.length := by omega
          obtain ⟨b, hx⟩ : ∃ b, D[k]? = some b := ⟨_, List.getElem?_eq_getElem hlt⟩
          have hidx : s[((k : Int) + (qa : Int)).toNat]? = some b := by
            rw [show ((k : Int) + (qa : Int)).toNat = k + qa by omega]
            exact byte_at (by rw [← hLd, hLD, hqa]; exact hx)
          have hb256 := b.toNat_lt
          have hmb := Lib.decFrom_take_lt hf (by omega)
          refine awp_skip ?_
          change Awp _ _ _ _ _
          refine awp_seq ?_
          refine awp_block ?_
          refine awp_seq ?_
          refine awp_seq ?_
          refine xa 10 ?_
          refine rg_q (q_m rfl) (rg_q (q_m rfl) ?_)
          refine rg_q (q_index_str str9 rfl rfl (by omega) hidx) ?_
          refine rg_q (q_lss rfl rfl) (rg_q (q_m rfl) ?_)
          refine rg_g rfl rfl (fun hG => (q_m rfl)) ?_
          refine rg_g rfl rfl (fun hG => (q_m rfl)) ?_
          refine rg_g rfl rfl (fun hG => (q_index_str str9 rfl rfl (by (have hg0 := T.bool_inj (a := _) hG.1; (try simp only [nb, ne_eq] at hg0); omega)) hidx)) ?_
          refine rg_g rfl rfl (fun hG => (q_gtr rfl rfl)) ?_
          refine rg_pick rfl rfl rfl rfl rfl rfl ?_
          refine xc (awp_cond rfl (fun hc10 => ?_) (fun hc10 => ?_))
          ·
            (try simp only [nb, ne_eq] at hc10)
            have hdn : Lib.digitVal b = none := by unfold Lib.digitVal; rw [if_neg (by omega)]
            have hnone : Lib.decFrom 0 D = none := by
              cases h : Lib.decFrom 0 D with
              | none => rfl
              | some n =>
                obtain ⟨d, hd⟩ := Lib.digit_of_decFrom D 0 n h k b hx
                rw [hdn] at hd; cases hd
            have hz : nmL L = (0, false) := by unfold nmL; rw [if_neg hb, hdg, hnone]
            refine awp_seq ?_
            refine xa 2 ?_
            refine rg_q (q_a rfl) (rg_q (q_a rfl) ?_)
            refine xc (awp_ret ?_)
            refine ⟨_, xk2, ?_⟩
            rw [hz]; rfl
          ·
            (try simp only [nb, ne_eq] at hc10)
            obtain ⟨g1, g2⟩ : 48 ≤ b.toNat ∧ b.toNat ≤ 57 := by omega
            have hdv : Lib.digitVal b = some (b.toNat - 48) := by unfold Lib.digitVal; rw [if_pos ⟨g1, g2⟩]
            have hnx := Lib.decFrom_take D k 0 m b _ hf hx hdv
            have hwr : IntKind.i64.wrap (IntKind.u8.wrap ((b.toNat : Int) - 48)) = ((b.toNat - 48 : Nat) : Int) := by rw [show (b.toNat : Int) - 48 = ((b.toNat - 48 : Nat) : Int) by omega]; exact u8_small (by omega)
            refine awp_skip ?_
            change Awp _ _ _ _ _
            refine xa 9 ?_
            refine rg_q (q_m rfl) ?_
            refine rg_q (q_mul rfl rfl xi) ?_
            refine rg_q (q_m rfl) (rg_q (q_m rfl) ?_)
            refine rg_q (q_index_str str9 rfl rfl (by omega) hidx) ?_
            refine rg_q (q_subw rfl rfl) ?_
            refine rg_q (q_convE int5 int3 rfl hwr) ?_
            refine rg_q (q_add rfl rfl xi) ?_
            refine rg_q (q_a rfl) ?_
            refine rn ?_
            change Awp _ _ _ _ _
            refine xa 3 ?_
            refine rg_q (q_m rfl) ?_
            refine rg_q (q_add rfl rfl xi) ?_
            refine rg_q (q_a rfl) ?_
            refine rn ?_
            refine ⟨(k + 1, m * 10 + (b.toNat - 48)), ⟨by simp only; omega, hnx⟩, by simp only; omega, ?_⟩
            exact xh (ms := []) (by repeat (first | exact Out.head rfl rfl | (refine Out.put ?_ rfl))) ⟨(by (show T.i _ = T.i _; congr 1; (try simp only); omega)), (by (show T.i _ = T.i _; congr 1; (try simp only); omega)), trivial⟩ trivial
        ·
          (try simp only [nb, ne_eq] at hc8)
          obtain ⟨k, m⟩ := y
          simp only at hk hf hc8
          have hkD : k = D.length := by omega
          have hfin : Lib.decFrom 0 D = some m := by rw [← hf, hkD, List.take_length]
          have hmb := Lib.decFrom_lt18 hfin (by omega)
          have hz : nmL L = (if negL L = true then -(m : Int) else m, true) := by unfold nmL; rw [if_neg hb, hdg, hfin]
          refine awp_exit ?_
          change Awp _ _ _ _ _
          refine awp_seq ?_
          refine awp_seq ?_
          refine xa 2 ?_
          refine rg_q (q_m rfl) (rg_q (q_eql rfl rfl) ?_)
          refine xc (awp_cond rfl (fun hc13 => ?_) (fun hc13 => ?_))
          ·
            (try simp only [nb, ne_eq] at hc13)
            refine xa 3 ?_
            refine rg_q (q_m rfl) ?_
            refine rg_q (q_neg rfl xi) ?_
            refine rg_q (q_a rfl) ?_
            refine rs (xa 3 ?_)
            refine rg_q (q_m rfl) (rg_q (q_a rfl) (rg_q (q_a rfl) ?_))
            refine xc (awp_ret ?_)
            refine ⟨_, xk2, ?_⟩
            rw [hz, hneg]; rfl
          ·
            simp at hc13
  ·
    (try simp only [nb, ne_eq] at hc2)
    obtain ⟨qa, hqa⟩ : ∃ qa : Nat, qa = 0 := ⟨0, rfl⟩
    obtain ⟨D, hLD⟩ : ∃ D, D = L := ⟨_, rfl⟩
    have hneg : negL L = false := by
      unfold negL
      cases hL : L with
      | nil => rfl
      | cons x xs =>
        refine decide_eq_false fun e => ?_
        have e : x = 45 := by simpa using e
        have h0 := hc0 (by rw [hL]; simp)
        rw [hL] at h0
        have e2 : x = c0 := Option.some.inj h0
        have hv : (c0.toNat : Int) = 45 := by rw [← e2, e]; rfl
        have hl0 : 0 < L.length := by rw [hL]; simp
        omega
    have hdg : digL L = D := by unfold digL; rw [if_neg (by rw [hneg]; simp), hLD]
    have hDl : L.length = D.length := by rw [hLD]
    obtain ⟨cA, hhd⟩ : ∃ c, 0 < D.length → D.head? = some c := by
      cases D with
      | nil => exact ⟨0, fun h => by cases h⟩
      | cons x xs => exact ⟨x, fun _ => rfl⟩
    have hcS : 0 < D.length → s[(0 : Int).toNat]? = some cA := fun h => byte_at (k := 0) (by rw [← hLd, ← hLD, ← List.head?_eq_getElem?]; exact hhd h)
    refine awp_skip ?_
    change Awp _ _ _ _ _
    refine awp_seq ?_
    refine awp_seq ?_
    refine xa 23 ?_
    refine rg_q (q_m rfl) ?_
    refine rg_q (q_len_str str9 rfl) ?_
    refine rg_q (q_m rfl) (rg_q (q_eql rfl rfl) (rg_q (q_m rfl) ?_))
    refine rg_g rfl rfl (fun hG => (q_m rfl)) ?_
    refine rg_g rfl rfl (fun hG => (q_len_str str9 rfl)) ?_
    refine rg_g rfl rfl (fun hG => (q_m rfl)) ?_
    refine rg_g rfl rfl (fun hG => (q_sub rfl rfl (In64.mk (by (have hg0 := T.bool_inj (a := _) hG.1; (try simp only [nb, ne_eq] at hg0); omega)) (by (have hg0 := T.bool_inj (a := _) hG.1; (try simp only [nb, ne_eq] at hg0); omega))))) ?_
    refine rg_g rfl rfl (fun hG => (q_m rfl)) ?_
    refine rg_g rfl rfl (fun hG => (q_gtr rfl rfl)) ?_
    refine rg_pick rfl rfl rfl rfl rfl rfl ?_
    refine rg_q (q_m rfl) ?_
    refine rg_g rfl rfl (fun hG => (q_m rfl)) ?_
    refine rg_g rfl rfl (fun hG => (q_m rfl)) ?_
    refine rg_g rfl rfl (fun hG => (q_index_str str9 rfl rfl (by (have hg0 := T.bool_inj (a := _) hG.1; (try simp only [nb, ne_eq] at hg0); omega)) (hcS (by (have hg0 := T.bool_inj (a := _) hG.1; (try simp only [nb, ne_eq] at hg0); omega))))) ?_
    refine rg_g rfl rfl (fun hG => (q_eql rfl rfl)) ?_
    refine rg_g rfl rfl (fun hG => (q_m rfl)) ?_
    refine rg_g rfl rfl (fun hG => (q_m rfl)) ?_
    refine rg_g rfl rfl (fun hG => (q_len_str str9 rfl)) ?_
    refine rg_g rfl rfl (fun hG => (q_gtr rfl rfl)) ?_
    refine rg_pickg rfl rfl rfl rfl rfl rfl rfl rfl ?_
    refine rg_pick rfl rfl rfl rfl rfl rfl ?_
    refine xc (awp_cond rfl (fun hc4 => ?_) (fun hc4 => ?_))
    ·
      (try simp only [nb, ne_eq] at hc4)
      have hbad : badL L := by
        unfold badL
        rw [hdg]
        rcases hc4 with (q | q) | ⟨q1, q2⟩
        · left; exact List.length_eq_zero_iff.1 (by omega)
        · right; left; omega
        · right; right
          have hu : cA = UInt8.ofNat 48 := (u8_eq (by decide)).1 q1
          exact ⟨by rw [hhd (by omega), hu]; rfl, by omega⟩
      have hz : nmL L = (0, false) := by unfold nmL; rw [if_pos hbad]
      refine awp_seq ?_
      refine xa 2 ?_
      refine rg_q (q_a rfl) (rg_q (q_a rfl) ?_)
      refine xc (awp_ret ?_)
      refine ⟨_, xk2, ?_⟩
      rw [hz]; rfl
    ·
      (try simp only [nb, ne_eq] at hc4)
      have hb : ¬ badL L := by
        unfold badL
        rw [hdg]
        rintro (q | q | ⟨q1, q2⟩)
        · have := congrArg List.length q
          simp only [List.length_nil] at this
          omega
        · omega
        · rw [hhd (by omega)] at q1
          have hu : cA = 48 := Option.some.inj q1
          have hv : (cA.toNat : Int) = 48 := by rw [hu]; rfl
          omega
      have hD9 : D.length ≤ 13 := by omega
      have hD0 : 0 < D.length := by omega
      refine awp_skip ?_
      change Awp _ _ _ _ _
      refine awp_seq ?_
      refine xa 1 ?_
      refine rg_q (q_a rfl) ?_
      refine rs (awp_seq ?_)
      refine xa 2 ?_
      refine rg_q (q_m rfl) (rg_q (q_a rfl) ?_)
      refine xc (awp_block ?_)
      refine awp_loopH [4, 5, 7, 8, 41, 42, 43, 44, 45, 46, 47, 48, 49, 50, 51, 52, 53, 54, 55, 56, 57, 58, 59, 60, 61, 62, 63, 64] [] (α := Nat × Nat) (fun y => [(8, T.i ((y.1 : Int) + (qa : Int))), (7, T.i (y.2 : Int))]) (fun y => []) (fun y => y.1 ≤ D.length ∧ Lib.decFrom 0 (D.take y.1) = some y.2) (fun y => D.length - y.1) (0, 0) ⟨Nat.zero_le _, rfl⟩ ?_ ?_
      · exact xh (ms := []) (by repeat (exact Out.refl _)) ⟨(by (show T.i _ = T.i _; congr 1; (try simp only); omega)), (by rfl), trivial⟩ trivial
      ·
        intro y ⟨hk, hf⟩
        refine awp_seq ?_
        refine awp_seq ?_
        refine xa 4 ?_
        refine rg_q (q_m rfl) (rg_q (q_m rfl) ?_)
        refine rg_q (q_len_str str9 rfl) ?_
        refine rg_q (q_lss rfl rfl) ?_
        refine xc (awp_cond rfl (fun hc8 => ?_) (fun hc8 => ?_))
        ·
          (try simp only [nb, ne_eq] at hc8)
          obtain ⟨k, m⟩ := y
          simp only at hk hf hc8
          have hlt : k < D.length := by omega
          obtain ⟨b, hx⟩ : ∃ b, D[k]? = some b := ⟨_, List.getElem?_eq_getElem hlt⟩
          have hidx : s[((k : Int) + (qa : Int)).toNat]? = some b := by
            rw [show ((k : Int) + (qa : Int)).toNat = k + qa by omega]
            exact byte_at (by rw [← hLd, ← hLD, hqa]; exact hx)
          have hb256 := b.toNat_lt
          have hmb := Lib.decFrom_take_lt hf (by omega)
          refine awp_skip ?_
          change Awp _ _ _ _ _
          refine awp_seq ?_
          refine awp_block ?_
          refine awp_seq ?_
          refine awp_seq ?_
          refine xa 10 ?_
          refine rg_q (q_m rfl) (rg_q (q_m rfl) ?_)
          refine rg_q (q_index_str str9 rfl rfl (by omega) hidx) ?_
          refine rg_q (q_lss rfl rfl) (rg_q (q_m rfl) ?_)
          refine rg_g rfl rfl (fun hG => (q_m rfl)) ?_
          refine rg_g rfl rfl (fun hG => (q_m rfl)) ?_
          refine rg_g rfl rfl (fun hG => (q_index_str str9 rfl rfl (by (have hg0 := T.bool_inj (a := _) hG.1; (try simp only [nb, ne_eq] at hg0); omega)) hidx)) ?_
          refine rg_g rfl rfl (fun hG => (q_gtr rfl rfl)) ?_
          refine rg_pick rfl rfl rfl rfl rfl rfl ?_
          refine xc (awp_cond rfl (fun hc10 => ?_) (fun hc10 => ?_))
          ·
            (try simp only [nb, ne_eq] at hc10)
            have hdn : Lib.digitVal b = none := by unfold Lib.digitVal; rw [if_neg (by omega)]
            have hnone : Lib.decFrom 0 D = none := by
              cases h : Lib.decFrom 0 D with
              | none => rfl
              | some n =>
                obtain ⟨d, hd⟩ := Lib.digit_of_decFrom D 0 n h k b hx
                rw [hdn] at hd; cases hd
            have hz : nmL L = (0, false) := by unfold nmL; rw [if_neg hb, hdg, hnone]
            refine awp_seq ?_
            refine xa 2 ?_
            refine rg_q (q_a rfl) (rg_q (q_a rfl) ?_)
            refine xc (awp_ret ?_)
            refine ⟨_, xk2, ?_⟩
            rw [hz]; rfl
          ·
            (try simp only [nb, ne_eq] at hc10)
            obtain ⟨g1, g2⟩ : 48 ≤ b.toNat ∧ b.toNat ≤ 57 := by omega
            have hdv : Lib.digitVal b = some (b.toNat - 48) := by unfold Lib.digitVal; rw [if_pos ⟨g1, g2⟩]
            have hnx := Lib.decFrom_take D k 0 m b _ hf hx hdv
            have hwr : IntKind.i64.wrap (IntKind.u8.wrap ((b.toNat : Int) - 48)) = ((b.toNat - 48 : Nat) : Int) := by rw [show (b.toNat : Int) - 48 = ((b.toNat - 48 : Nat) : Int) by omega]; exact u8_small (by omega)
            refine awp_skip ?_
            change Awp _ _ _ _ _
            refine xa 9 ?_
            refine rg_q (q_m rfl) ?_
            refine rg_q (q_mul rfl rfl xi) ?_
            refine rg_q (q_m rfl) (rg_q (q_m rfl) ?_)
            refine rg_q (q_index_str str9 rfl rfl (by omega) hidx) ?_
            refine rg_q (q_subw rfl rfl) ?_
            refine rg_q (q_convE int5 int3 rfl hwr) ?_
            refine rg_q (q_add rfl rfl xi) ?_
            refine rg_q (q_a rfl) ?_
            refine rn ?_
            change Awp _ _ _ _ _
            refine xa 3 ?_
            refine rg_q (q_m rfl) ?_
            refine rg_q (q_add rfl rfl xi) ?_
            refine rg_q (q_a rfl) ?_
            refine rn ?_
            refine ⟨(k + 1, m * 10 + (b.toNat - 48)), ⟨by simp only; omega, hnx⟩, by simp only; omega, ?_⟩
            exact xh (ms := []) (by repeat (first | exact Out.head rfl rfl | (refine Out.put ?_ rfl))) ⟨(by (show T.i _ = T.i _; congr 1; (try simp only); omega)), (by (show T.i _ = T.i _; congr 1; (try simp only); omega)), trivial⟩ trivial
        ·
          (try simp only [nb, ne_eq] at hc8)
          obtain ⟨k, m⟩ := y
          simp only at hk hf hc8
          have hkD : k = D.length := by omega
          have hfin : Lib.decFrom 0 D = some m := by rw [← hf, hkD, List.take_length]
          have hmb := Lib.decFrom_lt18 hfin (by omega)
          have hz : nmL L = (if negL L = true then -(m : Int) else m, true) := by unfold nmL; rw [if_neg hb, hdg, hfin]
          refine awp_exit ?_
          change Awp _ _ _ _ _
          refine awp_seq ?_
          refine awp_seq ?_
          refine xa 2 ?_
          refine rg_q (q_m rfl) (rg_q (q_eql rfl rfl) ?_)
          refine xc (awp_cond rfl (fun hc13 => ?_) (fun hc13 => ?_))
          ·
            simp at hc13
          ·
            (try simp only [nb, ne_eq] at hc13)
            refine awp_skip ?_
            change Awp _ _ _ _ _
            refine awp_seq ?_
            refine xa 3 ?_
            refine rg_q (q_m rfl) (rg_q (q_a rfl) (rg_q (q_a rfl) ?_))
            refine xc (awp_ret ?_)
            refine ⟨_, xk2, ?_⟩
            rw [hz, hneg]; rfl

theorem cutL_at {L : List UInt8} {k : Nat} {b : UInt8} (h : L[k]? = some b) : cutL (L.drop k) = if b = 32 then [] :: cutL (L.drop (k + 1)) else hdL [b] (cutL (L.drop (k + 1))) := by
  obtain ⟨hlt, hx⟩ := List.getElem?_eq_some_iff.1 h
  rw [List.drop_eq_getElem_cons hlt, hx]; rfl
theorem cut_seg {L : List UInt8} {k a : Nat} {b : UInt8} (h : L[k]? = some b) (ha : a ≤ k) : (L.take (k + 1)).drop a = (L.take k).drop a ++ [b] := by
  obtain ⟨hlt, hx⟩ := List.getElem?_eq_some_iff.1 h
  rw [List.take_succ_eq_append_getElem hlt, hx, List.drop_append_of_le_length (by rw [List.length_take]; omega)]
theorem hdL_cons (p : List UInt8) (z : List (List UInt8)) : hdL p ([] :: z) = p :: z := by
  show (p ++ []) :: z = _
  rw [List.append_nil]
theorem seg_end (L : List UInt8) (a : Nat) : (L.take a).drop a = [] := List.drop_eq_nil_of_le (by rw [List.length_take]; omega)
theorem cut_p (s : ByteArray) (hs : s.size ≤ 100000) : PC Tryz.prog 46 [.v (.string (s)), .v (.int .u8 32)] (.sl 1 (((cutL s.data.toList).map mkB).map strC)) := by
 obtain ⟨L, hLd⟩ : ∃ L, L = s.data.toList := ⟨_, rfl⟩
 have hsl : s.size = L.length := by rw [hLd]; exact Lib.size_eq s
 rw [← hLd]
 refine pc_of_awpN Tryz.func46 rfl Tryz.ntmps46 (rs := [.tmp 4]) Tryz.results46 (by simp) fun w0 hmine hrnd hpn => ?_
 refine awp_seq ?_
 refine xa 1 ?_
 refine rg_q (q_assign_nil) ?_
 refine rs (xa 1 ?_)
 refine rg_q (q_assign_nil) ?_
 refine rn ?_
 change Awp _ _ _ _ _
 refine Awp.le (le_own (k := 5) (e := 9) (sz := 1) rfl rfl) ?_
 refine awp_seq ?_
 refine xa 1 ?_
 refine rg_q (q_a rfl) ?_
 refine rs (awp_seq ?_)
 refine xa 1 ?_
 refine rg_q (q_a rfl) ?_
 refine xc (awp_block ?_)
 refine awp_loopH [5, 6, 7, 8, 9, 10, 11, 12, 13, 14, 15, 16, 17, 18, 19, 20, 21, 22, 23, 24, 25, 26, 27] [5] (α := Nat × Nat × List (List UInt8)) (fun y => [(7, T.i (y.1 : Int)), (6, T.i (y.2.1 : Int)), (5, .rs 5)]) (fun y => [(5, .row 9 1 ((y.2.2.map mkB).map strC))]) (fun y => (y.1 ≤ L.length ∧ y.2.1 ≤ y.1) ∧ cutL L = y.2.2 ++ hdL ((L.take y.1).drop y.2.1) (cutL (L.drop y.1)) ∧ y.2.2.length ≤ y.1) (fun y => L.length - y.1) (0, 0, []) ⟨⟨Nat.zero_le _, Nat.le_refl _⟩, by simp only [List.nil_append, List.take_zero, List.drop_zero]; exact (hdL_nil (cutL_ne L)).symm, Nat.le_refl _⟩ ?_ ?_
 · exact xh (ms := [5]) (by repeat (exact Out.refl _)) ⟨(by rfl), (by rfl), (by rfl), trivial⟩ ⟨(by rfl), trivial⟩
 ·
  intro y ⟨hk, hI, hul⟩
  refine awp_seq ?_
  refine awp_seq ?_
  refine xa 4 ?_
  refine rg_q (q_m rfl) (rg_q (q_m rfl) ?_)
  refine rg_q (q_len_str str9 rfl) ?_
  refine rg_q (q_lss rfl rfl) ?_
  refine xc (awp_cond rfl (fun hc4 => ?_) (fun hc4 => ?_))
  ·
   (try simp only [nb, ne_eq] at hc4)
   obtain ⟨k, a, u⟩ := y
   simp only at hk hI hul hc4
   have hlt : k < L.length := by omega
   obtain ⟨b, hx⟩ : ∃ b, L[k]? = some b := ⟨_, List.getElem?_eq_getElem hlt⟩
   have hidx : s[(k : Int).toNat]? = some b := byte_at (k := k) (by rw [← hLd]; exact hx)
   have hat := cutL_at hx
   have hsg := cut_seg hx hk.2
   have hext := ext_mk s a k
   rw [← hLd] at hext
   have hlu : ((u.map mkB).map strC).length ≤ 100000 := by rw [List.length_map, List.length_map]; omega
   refine awp_skip ?_
   change Awp _ _ _ _ _
   refine awp_seq ?_
   refine awp_block ?_
   refine awp_seq ?_
   refine xa 5 ?_
   refine rg_q (q_m rfl) (rg_q (q_m rfl) ?_)
   refine rg_q (q_index_str str9 rfl rfl (by omega) hidx) ?_
   refine rg_q (q_m rfl) (rg_q (q_eql rfl rfl) ?_)
   refine xc (awp_cond rfl (fun hc6 => ?_) (fun hc6 => ?_))
   ·
    (try simp only [nb, ne_eq] at hc6)
    have hb : b = 32 := (u8_eq (by decide)).1 hc6
    rw [if_pos hb] at hat
    have hnew : ((u ++ [(L.take k).drop a]).map mkB).map strC = (u.map mkB).map strC ++ [[.v (.string (s.extract a k))]] := by
     rw [hext, List.map_append, List.map_append]; rfl
    refine awp_seq ?_
    refine xa 6 ?_
    refine rg_q (q_move (x := .rs _) rfl) (rg_q (q_m rfl) (rg_q (q_m rfl) (rg_q (q_m rfl) ?_)))
    refine rg_q (q_sliceS str9 rfl rfl rfl (by simp only; omega) (by omega)) ?_
    refine rg_q (q_buildSlice sl90 zr9 rfl rfl (by decide) (.cons rfl (by exact .inl rfl) .nil) ⟨rfl, rfl, trivial⟩ rfl (by decide) rfl) ?_
    refine rg_nil ?_
    refine aops_append sl90 zr9 by9 rfl (by decide) rfl rfl rfl rfl (by (try simp only [List.length_map, List.length_append, List.length_cons, List.length_nil]); omega) (by (try simp only [List.length_map, List.length_append, List.length_cons, List.length_nil]); omega) rfl rfl ?_
    refine aops_q rfl (q_assign (x := .rs _) rfl) ?_
    refine aops_nil ?_
    change Awp _ _ _ _ _
    refine xa 3 ?_
    refine rg_q (q_m rfl) ?_
    refine rg_q (q_add rfl rfl xi) ?_
    refine rg_q (q_a rfl) ?_
    refine rn ?_
    change Awp _ _ _ _ _
    refine xa 3 ?_
    refine rg_q (q_m rfl) ?_
    refine rg_q (q_add rfl rfl xi) ?_
    refine rg_q (q_a rfl) ?_
    refine rn ?_
    refine ⟨(k + 1, k + 1, u ++ [(L.take k).drop a]), ⟨⟨by simp only; omega, by simp only; omega⟩, by simp only; rw [hI, hat, seg_end, hdL_cons, hdL_nil (cutL_ne _)]; simp, by simp only [List.length_append, List.length_cons, List.length_nil]; omega⟩, by simp only; omega, ?_⟩
    exact xh (ms := [5]) (by repeat (first | exact Out.head rfl rfl | (refine Out.put ?_ rfl) | (refine Out.site ?_ rfl) | (refine Out.killS ?_ rfl))) ⟨(by rfl), (by rfl), (by rfl), trivial⟩ ⟨(by ((show Site.row 9 1 (_ ++ [_]) = Site.row 9 1 _; rw [hnew]; rfl))), trivial⟩
   ·
    (try simp only [nb, ne_eq] at hc6)
    have hb : ¬ b = 32 := fun e => hc6 (by rw [e]; rfl)
    rw [if_neg hb] at hat
    refine awp_skip ?_
    change Awp _ _ _ _ _
    refine xa 3 ?_
    refine rg_q (q_m rfl) ?_
    refine rg_q (q_add rfl rfl xi) ?_
    refine rg_q (q_a rfl) ?_
    refine rn ?_
    refine ⟨(k + 1, a, u), ⟨⟨by simp only; omega, by simp only; omega⟩, by simp only; rw [hI, hat, hdL_hdL, hsg], by simp only; omega⟩, by simp only; omega, ?_⟩
    exact xh (ms := [5]) (by repeat (first | exact Out.head rfl rfl | (refine Out.put ?_ rfl))) ⟨(by rfl), (by rfl), (by rfl), trivial⟩ ⟨(by rfl), trivial⟩
  ·
   (try simp only [nb, ne_eq] at hc4)
   obtain ⟨k, a, u⟩ := y
   simp only at hk hI hul hc4
   have hkl : k = L.length := by omega
   have hext := ext_mk s a s.size
   rw [← hLd] at hext
   have hlu : ((u.map mkB).map strC).length ≤ 100000 := by rw [List.length_map, List.length_map]; omega
   have hfin : ((cutL L).map mkB).map strC = (u.map mkB).map strC ++ [[.v (.string (s.extract a s.size))]] := by
    rw [hI, hkl, List.drop_length, hext, hsl, List.map_append, List.map_append]
    show _ ++ [strC (mkB ((L.take L.length).drop a ++ []))] = _
    rw [List.append_nil]; rfl
   refine awp_exit ?_
   change Awp _ _ _ _ _
   refine awp_seq ?_
   refine xa 5 ?_
   refine rg_q (q_move (x := .rs _) rfl) (rg_q (q_m rfl) (rg_q (q_m rfl) ?_))
   refine rg_q (q_sliceS str9 rfl rfl rfl (by simp only; omega) (by omega)) ?_
   refine rg_q (q_buildSlice sl90 zr9 rfl rfl (by decide) (.cons rfl (by exact .inl rfl) .nil) ⟨rfl, rfl, trivial⟩ rfl (by decide) rfl) ?_
   refine rg_nil ?_
   refine aops_append sl90 zr9 by9 rfl (by decide) rfl rfl rfl rfl (by (try simp only [List.length_map, List.length_append, List.length_cons, List.length_nil]); omega) (by (try simp only [List.length_map, List.length_append, List.length_cons, List.length_nil]); omega) rfl rfl ?_
   refine aops_q rfl (q_assign (x := .rs _) rfl) ?_
   refine aops_nil ?_
   change Awp _ _ _ _ _
   refine awp_ret ?_
   refine ⟨_, (.cons (.tmp (by exact .rs rfl)) .nil), ?_⟩
   rw [hfin]; rfl

theorem cutN_at {L : List UInt8} {k : Nat} {b : UInt8} (h : L[k]? = some b) : cutN (L.drop k) = if b = 10 then [] :: cutN (L.drop (k + 1)) else hdL [b] (cutN (L.drop (k + 1))) := by
  obtain ⟨hlt, hx⟩ := List.getElem?_eq_some_iff.1 h
  rw [List.drop_eq_getElem_cons hlt, hx]; rfl
theorem cutN_p (s : ByteArray) (hs : s.size ≤ 100000) : PC Tryz.prog 46 [.v (.string (s)), .v (.int .u8 10)] (.sl 1 (((cutN s.data.toList).map mkB).map strC)) := by
 obtain ⟨L, hLd⟩ : ∃ L, L = s.data.toList := ⟨_, rfl⟩
 have hsl : s.size = L.length := by rw [hLd]; exact Lib.size_eq s
 rw [← hLd]
 refine pc_of_awpN Tryz.func46 rfl Tryz.ntmps46 (rs := [.tmp 4]) Tryz.results46 (by simp) fun w0 hmine hrnd hpn => ?_
 refine awp_seq ?_
 refine xa 1 ?_
 refine rg_q (q_assign_nil) ?_
 refine rs (xa 1 ?_)
 refine rg_q (q_assign_nil) ?_
 refine rn ?_
 change Awp _ _ _ _ _
 refine Awp.le (le_own (k := 5) (e := 9) (sz := 1) rfl rfl) ?_
 refine awp_seq ?_
 refine xa 1 ?_
 refine rg_q (q_a rfl) ?_
 refine rs (awp_seq ?_)
 refine xa 1 ?_
 refine rg_q (q_a rfl) ?_
 refine xc (awp_block ?_)
 refine awp_loopH [5, 6, 7, 8, 9, 10, 11, 12, 13, 14, 15, 16, 17, 18, 19, 20, 21, 22, 23, 24, 25, 26, 27] [5] (α := Nat × Nat × List (List UInt8)) (fun y => [(7, T.i (y.1 : Int)), (6, T.i (y.2.1 : Int)), (5, .rs 5)]) (fun y => [(5, .row 9 1 ((y.2.2.map mkB).map strC))]) (fun y => (y.1 ≤ L.length ∧ y.2.1 ≤ y.1) ∧ cutN L = y.2.2 ++ hdL ((L.take y.1).drop y.2.1) (cutN (L.drop y.1)) ∧ y.2.2.length ≤ y.1) (fun y => L.length - y.1) (0, 0, []) ⟨⟨Nat.zero_le _, Nat.le_refl _⟩, by simp only [List.nil_append, List.take_zero, List.drop_zero]; exact (hdL_nil (cutN_ne L)).symm, Nat.le_refl _⟩ ?_ ?_
 · exact xh (ms := [5]) (by repeat (exact Out.refl _)) ⟨(by rfl), (by rfl), (by rfl), trivial⟩ ⟨(by rfl), trivial⟩
 ·
  intro y ⟨hk, hI, hul⟩
  refine awp_seq ?_
  refine awp_seq ?_
  refine xa 4 ?_
  refine rg_q (q_m rfl) (rg_q (q_m rfl) ?_)
  refine rg_q (q_len_str str9 rfl) ?_
  refine rg_q (q_lss rfl rfl) ?_
  refine xc (awp_cond rfl (fun hc4 => ?_) (fun hc4 => ?_))
  ·
   (try simp only [nb, ne_eq] at hc4)
   obtain ⟨k, a, u⟩ := y
   simp only at hk hI hul hc4
   have hlt : k < L.length := by omega
   obtain ⟨b, hx⟩ : ∃ b, L[k]? = some b := ⟨_, List.getElem?_eq_getElem hlt⟩
   have hidx : s[(k : Int).toNat]? = some b := byte_at (k := k) (by rw [← hLd]; exact hx)
   have hat := cutN_at hx
   have hsg := cut_seg hx hk.2
   have hext := ext_mk s a k
   rw [← hLd] at hext
   have hlu : ((u.map mkB).map strC).length ≤ 100000 := by rw [List.length_map, List.length_map]; omega
   refine awp_skip ?_
   change Awp _ _ _ _ _
   refine awp_seq ?_
   refine awp_block ?_
   refine awp_seq ?_
   refine xa 5 ?_
   refine rg_q (q_m rfl) (rg_q (q_m rfl) ?_)
   refine rg_q (q_index_str str9 rfl rfl (by omega) hidx) ?_
   refine rg_q (q_m rfl) (rg_q (q_eql rfl rfl) ?_)
   refine xc (awp_cond rfl (fun hc6 => ?_) (fun hc6 => ?_))
   ·
    (try simp only [nb, ne_eq] at hc6)
    have hb : b = 10 := (u8_eq (by decide)).1 hc6
    rw [if_pos hb] at hat
    have hnew : ((u ++ [(L.take k).drop a]).map mkB).map strC = (u.map mkB).map strC ++ [[.v (.string (s.extract a k))]] := by
     rw [hext, List.map_append, List.map_append]; rfl
    refine awp_seq ?_
    refine xa 6 ?_
    refine rg_q (q_move (x := .rs _) rfl) (rg_q (q_m rfl) (rg_q (q_m rfl) (rg_q (q_m rfl) ?_)))
    refine rg_q (q_sliceS str9 rfl rfl rfl (by simp only; omega) (by omega)) ?_
    refine rg_q (q_buildSlice sl90 zr9 rfl rfl (by decide) (.cons rfl (by exact .inl rfl) .nil) ⟨rfl, rfl, trivial⟩ rfl (by decide) rfl) ?_
    refine rg_nil ?_
    refine aops_append sl90 zr9 by9 rfl (by decide) rfl rfl rfl rfl (by (try simp only [List.length_map, List.length_append, List.length_cons, List.length_nil]); omega) (by (try simp only [List.length_map, List.length_append, List.length_cons, List.length_nil]); omega) rfl rfl ?_
    refine aops_q rfl (q_assign (x := .rs _) rfl) ?_
    refine aops_nil ?_
    change Awp _ _ _ _ _
    refine xa 3 ?_
    refine rg_q (q_m rfl) ?_
    refine rg_q (q_add rfl rfl xi) ?_
    refine rg_q (q_a rfl) ?_
    refine rn ?_
    change Awp _ _ _ _ _
    refine xa 3 ?_
    refine rg_q (q_m rfl) ?_
    refine rg_q (q_add rfl rfl xi) ?_
    refine rg_q (q_a rfl) ?_
    refine rn ?_
    refine ⟨(k + 1, k + 1, u ++ [(L.take k).drop a]), ⟨⟨by simp only; omega, by simp only; omega⟩, by simp only; rw [hI, hat, seg_end, hdL_cons, hdL_nil (cutN_ne _)]; simp, by simp only [List.length_append, List.length_cons, List.length_nil]; omega⟩, by simp only; omega, ?_⟩
    exact xh (ms := [5]) (by repeat (first | exact Out.head rfl rfl | (refine Out.put ?_ rfl) | (refine Out.site ?_ rfl) | (refine Out.killS ?_ rfl))) ⟨(by rfl), (by rfl), (by rfl), trivial⟩ ⟨(by ((show Site.row 9 1 (_ ++ [_]) = Site.row 9 1 _; rw [hnew]; rfl))), trivial⟩
   ·
    (try simp only [nb, ne_eq] at hc6)
    have hb : ¬ b = 10 := fun e => hc6 (by rw [e]; rfl)
    rw [if_neg hb] at hat
    refine awp_skip ?_
    change Awp _ _ _ _ _
    refine xa 3 ?_
    refine rg_q (q_m rfl) ?_
    refine rg_q (q_add rfl rfl xi) ?_
    refine rg_q (q_a rfl) ?_
    refine rn ?_
    refine ⟨(k + 1, a, u), ⟨⟨by simp only; omega, by simp only; omega⟩, by simp only; rw [hI, hat, hdL_hdL, hsg], by simp only; omega⟩, by simp only; omega, ?_⟩
    exact xh (ms := [5]) (by repeat (first | exact Out.head rfl rfl | (refine Out.put ?_ rfl))) ⟨(by rfl), (by rfl), (by rfl), trivial⟩ ⟨(by rfl), trivial⟩
  ·
   (try simp only [nb, ne_eq] at hc4)
   obtain ⟨k, a, u⟩ := y
   simp only at hk hI hul hc4
   have hkl : k = L.length := by omega
   have hext := ext_mk s a s.size
   rw [← hLd] at hext
   have hlu : ((u.map mkB).map strC).length ≤ 100000 := by rw [List.length_map, List.length_map]; omega
   have hfin : ((cutN L).map mkB).map strC = (u.map mkB).map strC ++ [[.v (.string (s.extract a s.size))]] := by
    rw [hI, hkl, List.drop_length, hext, hsl, List.map_append, List.map_append]
    show _ ++ [strC (mkB ((L.take L.length).drop a ++ []))] = _
    rw [List.append_nil]; rfl
   refine awp_exit ?_
   change Awp _ _ _ _ _
   refine awp_seq ?_
   refine xa 5 ?_
   refine rg_q (q_move (x := .rs _) rfl) (rg_q (q_m rfl) (rg_q (q_m rfl) ?_))
   refine rg_q (q_sliceS str9 rfl rfl rfl (by simp only; omega) (by omega)) ?_
   refine rg_q (q_buildSlice sl90 zr9 rfl rfl (by decide) (.cons rfl (by exact .inl rfl) .nil) ⟨rfl, rfl, trivial⟩ rfl (by decide) rfl) ?_
   refine rg_nil ?_
   refine aops_append sl90 zr9 by9 rfl (by decide) rfl rfl rfl rfl (by (try simp only [List.length_map, List.length_append, List.length_cons, List.length_nil]); omega) (by (try simp only [List.length_map, List.length_append, List.length_cons, List.length_nil]); omega) rfl rfl ?_
   refine aops_q rfl (q_assign (x := .rs _) rfl) ?_
   refine aops_nil ?_
   change Awp _ _ _ _ _
   refine awp_ret ?_
   refine ⟨_, (.cons (.tmp (by exact .rs rfl)) .nil), ?_⟩
   rw [hfin]; rfl
end Go.Proofs.YtkbdnkjjklbddaaGreatDoor.Am.M
