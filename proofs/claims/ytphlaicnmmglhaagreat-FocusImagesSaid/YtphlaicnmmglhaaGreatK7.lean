/- Contracts over the abstract machine: package bench: samples and traces; floats of the base. Conditions: none. -/
import Derived.Test.YtphlaicnmmglhaaGreatK6
set_option linter.unusedVariables false
set_option linter.unusedSimpArgs false
-- mini
namespace Go.Proofs.YtphlaicnmmglhaaGreat.Am.M
open Go

def iv (n : Int) : D := .v (.int .i64 n)
def fv (n : Int) : D := .v (.float .f32 (FloatKind.f32.nearest n))
def fC (b : Nat) : List D := [.v (.float .f32 b)]
def fz : D := .v (.float .f32 0)
def outT (S : List Int) (k : Nat) : List D := (S.take k).map fv ++ List.replicate (64 - k) fz
theorem setCs_all {cs xs : List D} (h : xs.length = cs.length) : setCs cs 0 xs = xs := by
  unfold setCs
  rw [List.take_zero, Nat.zero_add, h, List.drop_length]; simp
theorem outT_set {S : List Int} {k : Nat} {x : Int} (hS : S.length = 64) (h : S[k]? = some x) : setCs (outT S k) (0 + (k : Int).toNat * 1) [fv x] = outT S (k + 1) := by
  obtain ⟨hlt, hx⟩ := List.getElem?_eq_some_iff.1 h
  have hl : ((S.take k).map fv).length = k := by rw [List.length_map, List.length_take]; omega
  rw [Int.toNat_natCast, Nat.zero_add, Nat.mul_one, setCs_one (by unfold outT; rw [List.length_append, hl, List.length_replicate]; omega)]
  unfold outT
  rw [List.set_append_right _ _ (by omega), hl, Nat.sub_self, show 64 - k = (64 - (k + 1)) + 1 by omega, List.replicate_succ, List.set_cons_zero, List.take_succ_eq_append_getElem hlt, hx, List.map_append, List.append_assoc]
  rfl
theorem outT_all {S : List Int} (hS : S.length = 64) : outT S 64 = S.map fv := by
  unfold outT
  rw [List.take_of_length_le (by omega)]; simp
def fd (b : Nat) : D := .v (.float .f32 b)
theorem fd_row (l : List Nat) : ((l.map fd).map fun d => [d]) = l.map fC := by rw [List.map_map]; rfl
end Go.Proofs.YtphlaicnmmglhaaGreat.Am.M
