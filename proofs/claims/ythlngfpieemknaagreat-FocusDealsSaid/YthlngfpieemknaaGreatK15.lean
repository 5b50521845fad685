/- Contracts over the abstract machine: BenchPulses. Conditions: none. -/
import Derived.Test.YthlngfpieemknaaGreatK14
set_option linter.unusedVariables false
set_option linter.unusedSimpArgs false
-- mini
namespace Go.Proofs.YthlngfpieemknaaGreat.Am.M
open Go
end Go.Proofs.YthlngfpieemknaaGreat.Am.M
