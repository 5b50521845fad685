/- Contracts over the abstract machine: apertures: the reference, LawApertures. Conditions: none. -/
import Derived.Test.YtgeieocphgnipaaGreatDoorG8
set_option linter.unusedVariables false
set_option linter.unusedSimpArgs false
-- mini
namespace Go.Proofs.YtgeieocphgnipaaGreatDoor.Am.M
open Go
end Go.Proofs.YtgeieocphgnipaaGreatDoor.Am.M
