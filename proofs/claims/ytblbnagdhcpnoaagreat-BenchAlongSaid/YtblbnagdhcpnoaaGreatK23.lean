/- Contracts over the abstract machine: BenchTraces, BenchEchoes. Conditions: none. -/
import Derived.Test.YtblbnagdhcpnoaaGreatK22
set_option linter.unusedVariables false
set_option linter.unusedSimpArgs false
-- mini
namespace Go.Proofs.YtblbnagdhcpnoaaGreat.Am.M
open Go

end Go.Proofs.YtblbnagdhcpnoaaGreat.Am.M
