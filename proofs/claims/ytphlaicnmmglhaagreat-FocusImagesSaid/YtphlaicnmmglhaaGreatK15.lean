/- Contracts over the abstract machine: BenchPulses. Conditions: none. -/
import Derived.Test.YtphlaicnmmglhaaGreatK14
set_option linter.unusedVariables false
set_option linter.unusedSimpArgs false
-- mini
namespace Go.Proofs.YtphlaicnmmglhaaGreat.Am.M
open Go
end Go.Proofs.YtphlaicnmmglhaaGreat.Am.M
