/- Contracts over the abstract machine: floats of 32 bits that are whole numbers. Conditions: none. -/
import Derived.Test.YtblbnagdhcpnoaaGreatAmD
import Derived.Test.YtblbnagdhcpnoaaGreatY2
set_option linter.unusedVariables false
set_option linter.unusedSimpArgs false
namespace Go.Proofs.YtblbnagdhcpnoaaGreat.Am.M
open Go

end Go.Proofs.YtblbnagdhcpnoaaGreat.Am.M
