/- Contracts over the abstract machine: package law: Without. Conditions: none. -/
import Derived.Test.YtgeieocphgnipaaGreatDoorF11
set_option linter.unusedVariables false
set_option linter.unusedSimpArgs false
-- mini
namespace Go.Proofs.YtgeieocphgnipaaGreatDoor.Am.M
open Go
end Go.Proofs.YtgeieocphgnipaaGreatDoor.Am.M
