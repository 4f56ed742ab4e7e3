import Derived.Test.YtjflgemfeofciaaGreatDoorRj4
import Derived.Test.YtjflgemfeofciaaGreatDoorQa4
/- Layer 4: rooms put to their ends (Only, Rests) and days, both sides. -/
namespace Go.Proofs.YtjflgemfeofciaaGreatDoor
open Go Go.Ev
set_option linter.unusedVariables false
set_option linter.unusedSimpArgs false
set_option maxRecDepth 10000
end Go.Proofs.YtjflgemfeofciaaGreatDoor
