/- Contracts over the abstract machine: package law: apertures, plain laws. Conditions: none. -/
import Derived.Test.YtgeieocphgnipaaGreatDoorF9
set_option linter.unusedVariables false
set_option linter.unusedSimpArgs false
-- mini
namespace Go.Proofs.YtgeieocphgnipaaGreatDoor.Am.M
open Go
end Go.Proofs.YtgeieocphgnipaaGreatDoor.Am.M
