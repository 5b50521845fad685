/- Contracts over the abstract machine: ranges of the reference of tables; the plain law of echoes. Conditions: none. -/
import Derived.Test.YtgolkffigoabhaaC9
set_option linter.unusedVariables false
set_option linter.unusedSimpArgs false
namespace Go.Proofs.Ytgolkffigoabhaa.Am.M
open Go

end Go.Proofs.Ytgolkffigoabhaa.Am.M
