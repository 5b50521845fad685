/- Contracts over the abstract machine: package bench: points of flaws. Conditions: none. -/
import Derived.Test.YthlngfpieemknaaGreatK8
set_option linter.unusedVariables false
set_option linter.unusedSimpArgs false
namespace Go.Proofs.YthlngfpieemknaaGreat.Am.M
open Go

end Go.Proofs.YthlngfpieemknaaGreat.Am.M
