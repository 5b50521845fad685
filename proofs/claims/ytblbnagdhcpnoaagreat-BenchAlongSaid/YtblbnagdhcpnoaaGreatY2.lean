/- Contracts over the abstract machine: plain laws of floats that are whole numbers. Conditions: none. -/
import Derived.Test.YtblbnagdhcpnoaaGreatY1
import Derived.Laws.FloatArith
import Derived.Laws.ComplexArith
set_option linter.unusedVariables false
set_option linter.unusedSimpArgs false
namespace Go.Proofs.YtblbnagdhcpnoaaGreat.Am.M
open Go

variable {f : Ieee.Format} {p L I : Nat}
end Go.Proofs.YtblbnagdhcpnoaaGreat.Am.M
