/- Contracts over the abstract machine: package law: directions, losses, lobes. Conditions: none. -/
import Derived.Test.YtgeieocphgnipaaGreatDoorG1
set_option linter.unusedVariables false
set_option linter.unusedSimpArgs false
-- mini
namespace Go.Proofs.YtgeieocphgnipaaGreatDoor.Am.M
open Go

end Go.Proofs.YtgeieocphgnipaaGreatDoor.Am.M
