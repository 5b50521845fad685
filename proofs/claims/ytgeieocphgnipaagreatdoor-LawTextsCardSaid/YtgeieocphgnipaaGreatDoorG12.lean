/- Contracts over the abstract machine: changes: the reference, LawChanges. Conditions: none. -/
import Derived.Test.YtgeieocphgnipaaGreatDoorG11
set_option linter.unusedVariables false
set_option linter.unusedSimpArgs false
-- mini
namespace Go.Proofs.YtgeieocphgnipaaGreatDoor.Am.M
open Go
end Go.Proofs.YtgeieocphgnipaaGreatDoor.Am.M
