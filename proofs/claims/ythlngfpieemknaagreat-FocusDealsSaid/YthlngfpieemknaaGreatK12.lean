/- Contracts over the abstract machine: package bench: a right specimen with its points. Conditions: none. -/
import Derived.Test.YthlngfpieemknaaGreatK11
set_option linter.unusedVariables false
set_option linter.unusedSimpArgs false
-- mini
namespace Go.Proofs.YthlngfpieemknaaGreat.Am.M
open Go

section
variable {P : Program} {w0 : Cx} {ty : TypeId} {pos : String} {after : Array Edge}
end

end Go.Proofs.YthlngfpieemknaaGreat.Am.M
