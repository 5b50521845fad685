/- Contracts over the abstract machine: BenchArrays, BenchSpecimens. Conditions: none. -/
import Derived.Test.YtblbnagdhcpnoaaK20
set_option linter.unusedVariables false
set_option linter.unusedSimpArgs false
-- mini
namespace Go.Proofs.Ytblbnagdhcpnoaa.Am.M
open Go
end Go.Proofs.Ytblbnagdhcpnoaa.Am.M
