/- Contracts over the abstract machine: drops; FocusDrops. Conditions: none. -/
import Derived.Test.YtphlaicnmmglhaaGreatE15
set_option linter.unusedVariables false
set_option linter.unusedSimpArgs false
-- mini
namespace Go.Proofs.YtphlaicnmmglhaaGreat.Am.M
open Go

end Go.Proofs.YtphlaicnmmglhaaGreat.Am.M
