/- Contracts over the abstract machine: the reference of chapter 4: flaws and their points. Conditions: none. -/
import Derived.Test.YthlngfpieemknaaGreatK15
set_option linter.unusedVariables false
set_option linter.unusedSimpArgs false
-- mini
namespace Go.Proofs.YthlngfpieemknaaGreat.Am.M
open Go
end Go.Proofs.YthlngfpieemknaaGreat.Am.M
