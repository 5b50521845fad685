/- Contracts over the abstract machine: small helpers of references. Conditions: none. -/
import Derived.Test.YtgdcidbpadhkpaaC10
import Derived.Test.YtgdcidbpadhkpaaAmC
set_option linter.unusedVariables false
set_option linter.unusedSimpArgs false
-- mini
namespace Go.Proofs.Ytgdcidbpadhkpaa.Am.M
open Go

end Go.Proofs.Ytgdcidbpadhkpaa.Am.M
