/- Contracts over the abstract machine: pairs of an array; BenchSees. Conditions: none. -/
import Derived.Test.YtblbnagdhcpnoaaGreatK23
set_option linter.unusedVariables false
set_option linter.unusedSimpArgs false
-- mini
namespace Go.Proofs.YtblbnagdhcpnoaaGreat.Am.M
open Go

end Go.Proofs.YtblbnagdhcpnoaaGreat.Am.M
