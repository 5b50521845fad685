/- Contracts over the abstract machine: chapter 9: sets, decisions. Conditions: none. -/
import Derived.Test.YthpggoophcdgnaaDoorS4
set_option linter.unusedVariables false
set_option linter.unusedSimpArgs false
-- mini
namespace Go.Proofs.YthpggoophcdgnaaDoor.Am.M
open Go

section
variable {P : Program} {w0 : Cx} {n : Nat} {s : Nat → Site} {ev : Operand → T} {dst : Option Tmp} {ty : TypeId} {pos : String} {after : Array Edge} {g : Option (Nat × Bool)}
def uv (n : Nat) : D := .v (.int .u64 (n : Int))
theorem wrap_u (n : Nat) (h : n < 18446744073709551616) : IntKind.u64.wrap (n : Int) = n := by rw [IntKind.wrap_u64]; omega
theorem wrap_u' (n : Int) (h0 : 0 ≤ n) (h : n < 2 ^ 64) : IntKind.u64.wrap n = n := by rw [IntKind.wrap_u64]; omega
theorem q_andN {t t' : TypeId} {x y : Operand} {a b : Nat} (hx : ev x = .d (.v (.int .u64 (a : Int)))) (hy : ev y = .d (.v (.int .u64 (b : Int)))) (ha : a < 2 ^ 64) (hb : b < 2 ^ 64) : QOp P w0 n s ev ⟨dst, .binOp .and t x y t', ty, pos, after, g⟩ (.d (.v (.int .u64 ((a &&& b : Nat) : Int)))) :=
  q_bin hx hy (fun w => by
    have := (bits_nat .u64 64 (by decide) wrap_u' a b ha hb).1
    simp [eqGuard, binOp_and, intBits_and, this]) rfl
theorem q_orN {t t' : TypeId} {x y : Operand} {a b : Nat} (hx : ev x = .d (.v (.int .u64 (a : Int)))) (hy : ev y = .d (.v (.int .u64 (b : Int)))) (ha : a < 2 ^ 64) (hb : b < 2 ^ 64) : QOp P w0 n s ev ⟨dst, .binOp .or t x y t', ty, pos, after, g⟩ (.d (.v (.int .u64 ((a ||| b : Nat) : Int)))) :=
  q_bin hx hy (fun w => by
    have := (bits_nat .u64 64 (by decide) wrap_u' a b ha hb).2
    simp [eqGuard, binOp_or, intBits_or, this]) rfl
theorem q_subN {t t' : TypeId} {x y : Operand} {a b : Nat} (hx : ev x = .d (.v (.int .u64 (a : Int)))) (hy : ev y = .d (.v (.int .u64 (b : Int)))) (ha : a < 2 ^ 64) (hb : b ≤ a) : QOp P w0 n s ev ⟨dst, .binOp .sub t x y t', ty, pos, after, g⟩ (.d (.v (.int .u64 ((a - b : Nat) : Int)))) :=
  q_bin hx hy (fun w => by
    have : IntKind.u64.wrap ((a : Int) - b) = ((a - b : Nat) : Int) := by rw [IntKind.wrap_u64]; omega
    simp [eqGuard, binOp, Op.intArith, this]) rfl
theorem q_shlN {t t' : TypeId} {x y : Operand} {b : Nat} (hx : ev x = .d (.v (.int .u64 1))) (hy : ev y = T.i (b : Int)) (hb : b < 64) : QOp P w0 n s ev ⟨dst, .binOp .shl t x y t', ty, pos, after, g⟩ (.d (.v (.int .u64 ((2 ^ b : Nat) : Int)))) :=
  q_bin hx hy (fun w => by
    have h1 : (2 : Nat) ^ b < 2 ^ 64 := Nat.pow_lt_pow_right (by decide) hb
    have h2 : IntKind.u64.wrap ((2 ^ b : Nat) : Int) = ((2 ^ b : Nat) : Int) := wrap_u _ h1
    have h3 : ((2 ^ b : Nat) : Int) = (2 : Int) ^ b := by simp
    rw [h3] at h2
    have h4 : ¬ ((b : Int) < 0) := by omega
    have h5 : min b 64 = b := by omega
    simp [eqGuard, binOp, Op.shift, h2, h4, h5, IntKind.bits]) rfl
end
def ctz (n : Nat) : Nat := Lib.ctz 64 n
theorem tz_p (n : Nat) (h : n < 18446744073709551616) : PCG Tryd.prog GW 49 [uv n] (.v (.int .i64 (ctz n : Int))) := by
  intro w ok vs hG hL
  obtain ⟨v1, rfl⟩ : ∃ v1, vs = [v1] := by
    match vs, hL with
    | [v1], _ => exact ⟨v1, rfl⟩
    | [], h => exact h.elim
    | _ :: _ :: _, h => exact h.2.elim
  have e1 : v1 = .int .u64 (n : Int) := Rep.v_eq hL.1
  subst e1
  refine (Any7.bits_TrailingZeros64 Tryd.laysNm729 n h w (fun _ j hj => ?_)).mono fun e w' ⟨he, hw⟩ => ?_
  · have := hG.2.2 j (.int .u8 (Lib.deBruijn64tab.getD j 0)) (by
      have e : (dbN.map fun n => Value.int .u8 n) = Lib.deBruijn64tab.map fun n : Nat => Value.int .u8 (n : Int) := by rfl
      rw [e, List.getElem?_map, List.getD_eq_getElem?_getD]
      rw [List.getElem?_eq_getElem hj]; rfl)
    exact this
  · subst hw
    exact ⟨_, he, Ext.refl _, Rep.v _ rfl⟩

def decS (l : List Rw) (n : Nat) : Int × Bool := if n = 0 then (0, false) else ((match l[ctz n]? with | some r => r.de | none => 0), true)
def accB (l : List Rw) (n : Nat) : Bool := (decS l n).2 && decide ((decS l n).1 = 0)
theorem rw_de (r : Rw) : (rwC r)[0 + 12]? = some (iv r.de) := rfl
set_option maxRecDepth 100000 in
theorem first_p (n : Nat) (h : n < 18446744073709551616) : PCG Tryd.prog GW 31 [.v (.int .u64 ((n : Nat) : Int))] (.v (.int .i64 ((ctz n : Int)))) := by
  refine pcg_of_awpN gw_keep Tryd.func31 rfl Tryd.ntmps31 (rs := [.tmp 2]) Tryd.results31 (by simp) fun w0 hmine hrnd hpn hG => ?_
  refine awp_seq ?_
  refine awp_region 1 mixed (by kernel_rfl) ?_
  refine rg_q (q_assign (x := .d (.v _)) rfl) ?_
  refine rg_nil ?_
  refine aops_nil ?_
  change Awp _ _ _ _ _
  refine awp_seq ?_
  refine awp_region 3 mixed (by kernel_rfl) ?_
  refine rg_q (q_move (x := .d (.v _)) rfl) ?_
  refine rg_q (q_callG en49 (.cons rfl .nil) rfl hG (tz_p _ (by omega))) ?_
  refine rg_q (q_assign (x := .d (.v _)) rfl) ?_
  refine rg_nil ?_
  refine aops_nil ?_
  change Awp _ _ _ _ _
  refine awp_ret ?_
  refine ⟨_, (.cons (.tmp (by exact .d _)) .nil), ?_⟩
  rfl
set_option maxRecDepth 100000 in
theorem decision_p (l : List Rw) (n : Nat) (h : n < 18446744073709551616) (hc : n ≠ 0 → ctz n < l.length) : PCG Tryd.prog GW 30 [.sl 13 (l.map rwC), .v (.int .u64 ((n : Nat) : Int))] (.tup [.v (.int .i64 ((decS l n).1)), .v (.bool ((decS l n).2))]) := by
  refine pcg_of_awpN gw_keep Tryd.func30 rfl Tryd.ntmps30 (rs := [.tmp 4, .tmp 5]) Tryd.results30 (by simp) fun w0 hmine hrnd hpn hG => ?_
  refine awp_seq ?_
  refine awp_region 2 mixed (by kernel_rfl) ?_
  refine rg_q (q_assign (x := .d (.v _)) rfl) ?_
  refine rg_q (q_assign (x := .d (.v _)) rfl) ?_
  refine rg_nil ?_
  refine aops_nil ?_
  change Awp _ _ _ _ _
  refine awp_seq ?_
  refine awp_seq ?_
  refine awp_region 2 mixed (by kernel_rfl) ?_
  refine rg_q (q_move (x := .d (.v _)) rfl) ?_
  refine rg_q (q_eql rfl rfl) ?_
  refine rg_nil ?_
  refine aops_nil ?_
  change Awp _ _ _ _ _
  refine awp_cond rfl (fun hc1 => ?_) (fun hc1 => ?_)
  ·
    (try simp only [nb, ne_eq] at hc1)
    have hn : n = 0 := by omega
    have hz : decS l n = (0, false) := if_pos hn
    refine awp_seq ?_
    refine awp_region 2 mixed (by kernel_rfl) ?_
    refine rg_q (q_assign (x := .d (.v _)) rfl) ?_
    refine rg_q (q_assign (x := .d (.v _)) rfl) ?_
    refine rg_nil ?_
    refine aops_nil ?_
    change Awp _ _ _ _ _
    refine awp_ret ?_
    refine ⟨_, (.cons (.tmp (by exact .d _)) (.cons (.tmp (by exact .d _)) .nil)), ?_⟩
    rw [hz]; rfl
  ·
    (try simp only [nb, ne_eq] at hc1)
    have hn : n ≠ 0 := by omega
    obtain ⟨r, hx⟩ : ∃ r, l[ctz n]? = some r := ⟨_, List.getElem?_eq_getElem (hc hn)⟩
    have hz : decS l n = (r.de, true) := by unfold decS; rw [if_neg hn, hx]
    refine awp_skip ?_
    change Awp _ _ _ _ _
    refine awp_seq ?_
    refine awp_region 8 mixed (by kernel_rfl) ?_
    refine rg_q (q_move (x := .d (.sl _ _)) rfl) ?_
    refine rg_q (q_move (x := .d (.v _)) rfl) ?_
    refine rg_q (q_callG en31 (.cons rfl .nil) rfl hG (first_p _ (by omega))) ?_
    refine rg_q (q_indexAddr sl68 rfl rfl (by omega) (map_at (by omega) hx)) ?_
    refine rg_q (q_fieldAddr fld43_1 rfl) ?_
    refine rg_q (q_load sz3 rfl (rw_de r)) ?_
    refine rg_q (q_assign (x := .d (.v _)) rfl) ?_
    refine rg_q (q_assign (x := .d (.v _)) rfl) ?_
    refine rg_nil ?_
    refine aops_nil ?_
    change Awp _ _ _ _ _
    refine awp_ret ?_
    refine ⟨_, (.cons (.tmp (by exact .d _)) (.cons (.tmp (by exact .d _)) .nil)), ?_⟩
    rw [hz]; rfl
set_option maxRecDepth 100000 in
theorem accepts_p (l : List Rw) (n : Nat) (h : n < 18446744073709551616) (hc : n ≠ 0 → ctz n < l.length) : PCG Tryd.prog GW 34 [.sl 13 (l.map rwC), .v (.int .u64 ((n : Nat) : Int))] (.v (.bool (accB l n))) := by
  refine pcg_of_awpN gw_keep Tryd.func34 rfl Tryd.ntmps34 (rs := [.tmp 4]) Tryd.results34 (by simp) fun w0 hmine hrnd hpn hG => ?_
  refine awp_seq ?_
  refine awp_region 1 mixed (by kernel_rfl) ?_
  refine rg_q (q_assign (x := .d (.v _)) rfl) ?_
  refine rg_nil ?_
  refine aops_nil ?_
  change Awp _ _ _ _ _
  refine awp_seq ?_
  refine awp_region 8 mixed (by kernel_rfl) ?_
  refine rg_q (q_move (x := .d (.sl _ _)) rfl) ?_
  refine rg_q (q_move (x := .d (.v _)) rfl) ?_
  refine rg_q (q_callG en30 (.cons rfl (.cons rfl .nil)) rfl hG (decision_p l _ (by omega) (by assumption))) ?_
  refine rg_q (q_move (x := .d (.tup _)) rfl) ?_
  refine rg_q (q_extract rfl rfl) ?_
  refine rg_q (q_extract rfl rfl) ?_
  refine rg_q (q_assign (x := .d (.v _)) rfl) ?_
  refine rg_q (q_assign (x := .d (.v _)) rfl) ?_
  refine rg_nil ?_
  refine aops_nil ?_
  change Awp _ _ _ _ _
  refine awp_seq ?_
  refine awp_region 6 mixed (by kernel_rfl) ?_
  refine rg_q (q_move (x := .d (.v _)) rfl) ?_
  refine rg_q (q_move (x := .d (.v _)) rfl) ?_
  refine rg_g rfl rfl (fun hG => (q_move (x := .d (.v _)) rfl)) ?_
  refine rg_g rfl rfl (fun hG => (q_eql rfl rfl)) ?_
  refine rg_pick rfl rfl rfl rfl rfl rfl ?_
  refine rg_q (q_assign (x := .d (.v _)) rfl) ?_
  refine rg_nil ?_
  refine aops_nil ?_
  change Awp _ _ _ _ _
  refine awp_ret ?_
  refine ⟨_, (.cons (.tmp (by exact .d _)) .nil), ?_⟩
  simp only [bif_and]; rfl
set_option maxRecDepth 100000 in
theorem everything_p (l : List Rw) (hl : l.length ≤ 60) : PC Tryd.prog 52 [.sl 13 (l.map rwC)] (.v (.int .u64 ((2 ^ l.length - 1 : Nat) : Int))) := by
  refine pc_of_awp Tryd.func52 rfl Tryd.ntmps52 (rs := [.tmp 2]) Tryd.results52 (by simp) fun w0 => ?_
  refine awp_seq ?_
  refine awp_region 1 mixed (by kernel_rfl) ?_
  refine rg_q (q_assign (x := .d (.v _)) rfl) ?_
  refine rg_nil ?_
  refine aops_nil ?_
  change Awp _ _ _ _ _
  refine awp_seq ?_
  refine awp_region 5 mixed (by kernel_rfl) ?_
  refine rg_q (q_move (x := .d (.sl _ _)) rfl) ?_
  refine rg_q (q_len isl68 rfl (by exact len_map _ _)) ?_
  refine rg_q (q_shlN rfl rfl (by omega)) ?_
  refine rg_q (q_subN rfl rfl (Nat.pow_lt_pow_right (by decide) (by omega)) (Nat.one_le_two_pow)) ?_
  refine rg_q (q_assign (x := .d (.v _)) rfl) ?_
  refine rg_nil ?_
  refine aops_nil ?_
  change Awp _ _ _ _ _
  refine awp_len (t := 3) rfl (fun hl3 => ?_)
  (try simp only [List.length_map] at hl3)
  refine awp_ret ?_
  refine ⟨_, (.cons (.tmp (by exact .d _)) .nil), ?_⟩
  rfl
end Go.Proofs.YthpggoophcdgnaaDoor.Am.M
