/- Contracts over the abstract machine: floats of 32 bits that are whole numbers. Conditions: none. -/
import Derived.Test.YtblbnagdhcpnoaaAmD
import Derived.Test.YtblbnagdhcpnoaaY2
set_option linter.unusedVariables false
set_option linter.unusedSimpArgs false
namespace Go.Proofs.Ytblbnagdhcpnoaa.Am.M
open Go

def f32I (n : Int) : Prop := n.natAbs < 2 ^ 24
theorem f32_of {n : Int} (h1 : -16777215 ≤ n) (h2 : n ≤ 16777215) : f32I n := by unfold f32I; omega
theorem f32_ord {a b : Int} (ha : f32I a) (hb : f32I b) : FloatKind.f32.format.order (FloatKind.f32.nearest a) (FloatKind.f32.nearest b) = some (compare a b) := order_wd fmS ha hb
end Go.Proofs.Ytblbnagdhcpnoaa.Am.M
