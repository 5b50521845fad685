/- Contracts over the abstract machine: ranges of the reference of tables; the plain law of echoes. Conditions: none. -/
import Derived.Test.YtgdcidbpadhkpaaC9
set_option linter.unusedVariables false
set_option linter.unusedSimpArgs false
-- mini
namespace Go.Proofs.Ytgdcidbpadhkpaa.Am.M
open Go

end Go.Proofs.Ytgdcidbpadhkpaa.Am.M
