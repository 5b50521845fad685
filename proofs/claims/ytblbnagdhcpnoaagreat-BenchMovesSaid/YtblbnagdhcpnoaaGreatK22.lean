/- Contracts over the abstract machine: the reference of chapter 4: echoes and traces. Conditions: none. -/
import Derived.Test.YtblbnagdhcpnoaaGreatK20
set_option linter.unusedVariables false
set_option linter.unusedSimpArgs false
-- mini
namespace Go.Proofs.YtblbnagdhcpnoaaGreat.Am.M
open Go
end Go.Proofs.YtblbnagdhcpnoaaGreat.Am.M
