/- Contracts over the abstract machine: small helpers of references. Conditions: none. -/
import Derived.Test.YtgolkffigoabhaaC10
import Derived.Test.YtgolkffigoabhaaAmC
set_option linter.unusedVariables false
set_option linter.unusedSimpArgs false
namespace Go.Proofs.Ytgolkffigoabhaa.Am.M
open Go

end Go.Proofs.Ytgolkffigoabhaa.Am.M
