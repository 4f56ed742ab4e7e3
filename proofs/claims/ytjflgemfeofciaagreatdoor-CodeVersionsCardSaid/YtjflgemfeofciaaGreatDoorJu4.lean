import Derived.Test.YtjflgemfeofciaaGreatDoorCx4
import Derived.Test.YtjflgemfeofciaaGreatDoorVd4
/- Layer 4: the ends of the tonnages of a plan. -/
namespace Go.Proofs.YtjflgemfeofciaaGreatDoor
open Go Go.Ev
set_option linter.unusedVariables false
set_option linter.unusedSimpArgs false
set_option maxRecDepth 10000
end Go.Proofs.YtjflgemfeofciaaGreatDoor
