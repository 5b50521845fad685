/- Contracts over the abstract machine: BenchFlaws. Conditions: none. -/
import Derived.Test.YtblbnagdhcpnoaaGreatK17
set_option linter.unusedVariables false
set_option linter.unusedSimpArgs false
namespace Go.Proofs.YtblbnagdhcpnoaaGreat.Am.M
open Go

end Go.Proofs.YtblbnagdhcpnoaaGreat.Am.M
