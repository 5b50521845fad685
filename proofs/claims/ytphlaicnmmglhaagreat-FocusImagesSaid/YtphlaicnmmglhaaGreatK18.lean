/- Contracts over the abstract machine: BenchFlaws. Conditions: none. -/
import Derived.Test.YtphlaicnmmglhaaGreatK17
set_option linter.unusedVariables false
set_option linter.unusedSimpArgs false
namespace Go.Proofs.YtphlaicnmmglhaaGreat.Am.M
open Go

end Go.Proofs.YtphlaicnmmglhaaGreat.Am.M
