/- Contracts over the abstract machine: package bench: a right specimen with its points. Conditions: none. -/
import Derived.Test.YtphlaicnmmglhaaGreatK11
set_option linter.unusedVariables false
set_option linter.unusedSimpArgs false
-- mini
namespace Go.Proofs.YtphlaicnmmglhaaGreat.Am.M
open Go

section
variable {P : Program} {w0 : Cx} {ty : TypeId} {pos : String} {after : Array Edge}
end

end Go.Proofs.YtphlaicnmmglhaaGreat.Am.M
