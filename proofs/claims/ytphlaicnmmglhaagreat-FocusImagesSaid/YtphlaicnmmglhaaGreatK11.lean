/- Contracts over the abstract machine: package bench: the trace of a right specimen for a right pair. Conditions: none. -/
import Derived.Test.YtphlaicnmmglhaaGreatK10
set_option linter.unusedVariables false
set_option linter.unusedSimpArgs false
-- mini
namespace Go.Proofs.YtphlaicnmmglhaaGreat.Am.M
open Go

end Go.Proofs.YtphlaicnmmglhaaGreat.Am.M
