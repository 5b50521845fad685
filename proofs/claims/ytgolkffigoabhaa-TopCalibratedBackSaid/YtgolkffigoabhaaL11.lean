/- Contracts over the abstract machine: TuneArcs, TuneContradicts. Conditions: none. -/
import Derived.Test.YtgolkffigoabhaaP10
set_option linter.unusedVariables false
set_option linter.unusedSimpArgs false
namespace Go.Proofs.Ytgolkffigoabhaa.Am.M
open Go

end Go.Proofs.Ytgolkffigoabhaa.Am.M
