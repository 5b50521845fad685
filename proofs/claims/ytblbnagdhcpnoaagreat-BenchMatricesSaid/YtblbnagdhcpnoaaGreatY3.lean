/- Contracts over the abstract machine: floats of 32 bits that are whole numbers. Conditions: none. -/
import Derived.Test.YtblbnagdhcpnoaaGreatAmD
import Derived.Test.YtblbnagdhcpnoaaGreatY2
set_option linter.unusedVariables false
set_option linter.unusedSimpArgs false
namespace Go.Proofs.YtblbnagdhcpnoaaGreat.Am.M
open Go

def f32I (n : Int) : Prop := n.natAbs < 2 ^ 24
theorem f32_of {n : Int} (h1 : -16777215 ≤ n) (h2 : n ≤ 16777215) : f32I n := by unfold f32I; omega
theorem f32_int {a : Int} (ha : f32I a) : floatToIntVal .f32 (FloatKind.f32.nearest a) .i64 = some a := by
  unfold floatToIntVal
  have h : (FloatKind.f32.decode (FloatKind.f32.nearest a)).toInt .zero = some a := toInt_wd fmS ha
  rw [h]
  have h1 : IntKind.i64.min ≤ a ∧ a ≤ IntKind.i64.max := by
    unfold f32I at ha
    show (-9223372036854775808 : Int) ≤ a ∧ a ≤ 9223372036854775807
    omega
  show (if IntKind.i64.min ≤ a ∧ a ≤ IntKind.i64.max then some a else none) = some a
  rw [if_pos h1]
end Go.Proofs.YtblbnagdhcpnoaaGreat.Am.M
