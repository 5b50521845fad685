/- Contracts over the abstract machine: grids of the reference; FocusGrids. Conditions: none. -/
import Derived.Test.YthlngfpieemknaaGreatE13
set_option linter.unusedVariables false
set_option linter.unusedSimpArgs false
-- mini
namespace Go.Proofs.YthlngfpieemknaaGreat.Am.M
open Go

end Go.Proofs.YthlngfpieemknaaGreat.Am.M
