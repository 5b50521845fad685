/- Contracts over the abstract machine: BenchFlaws. Conditions: none. -/
import Derived.Test.YtblbnagdhcpnoaaK17
set_option linter.unusedVariables false
set_option linter.unusedSimpArgs false
-- mini
namespace Go.Proofs.Ytblbnagdhcpnoaa.Am.M
open Go

end Go.Proofs.Ytblbnagdhcpnoaa.Am.M
