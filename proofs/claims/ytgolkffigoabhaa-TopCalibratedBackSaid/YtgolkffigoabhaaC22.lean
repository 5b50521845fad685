/- Contracts over the abstract machine: the reference of speeds and of delays. Conditions: none. -/
import Derived.Test.YtgolkffigoabhaaC21
set_option linter.unusedVariables false
set_option linter.unusedSimpArgs false
namespace Go.Proofs.Ytgolkffigoabhaa.Am.M
open Go

end Go.Proofs.Ytgolkffigoabhaa.Am.M
