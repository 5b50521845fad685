/- Contracts over the abstract machine: package bench: the trace of a specimen. Conditions: none. -/
import Derived.Test.YthlngfpieemknaaGreatK12
set_option linter.unusedVariables false
set_option linter.unusedSimpArgs false
namespace Go.Proofs.YthlngfpieemknaaGreat.Am.M
open Go

end Go.Proofs.YthlngfpieemknaaGreat.Am.M
