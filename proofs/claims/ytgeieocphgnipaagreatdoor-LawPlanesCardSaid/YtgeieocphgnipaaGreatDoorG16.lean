/- Contracts over the abstract machine: the reference of chapter 1: least times. Conditions: none. -/
import Derived.Test.YtgeieocphgnipaaGreatDoorG8
set_option linter.unusedVariables false
set_option linter.unusedSimpArgs false
-- mini
namespace Go.Proofs.YtgeieocphgnipaaGreatDoor.Am.M
open Go

end Go.Proofs.YtgeieocphgnipaaGreatDoor.Am.M
