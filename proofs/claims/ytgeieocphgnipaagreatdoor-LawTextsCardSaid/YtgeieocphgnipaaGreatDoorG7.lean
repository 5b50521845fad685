/- Contracts over the abstract machine: losses: the reference, the law. Conditions: none. -/
import Derived.Test.YtgeieocphgnipaaGreatDoorG6
set_option linter.unusedVariables false
set_option linter.unusedSimpArgs false
-- mini
namespace Go.Proofs.YtgeieocphgnipaaGreatDoor.Am.M
open Go
end Go.Proofs.YtgeieocphgnipaaGreatDoor.Am.M
