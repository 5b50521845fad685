/- Contracts over the abstract machine: BenchFlaws. Conditions: none. -/
import Derived.Test.YthlngfpieemknaaGreatK17
set_option linter.unusedVariables false
set_option linter.unusedSimpArgs false
namespace Go.Proofs.YthlngfpieemknaaGreat.Am.M
open Go

end Go.Proofs.YthlngfpieemknaaGreat.Am.M
