import Derived.Test.YtjflgemfeofciaaGreatDoorCx4
import Derived.Test.YtjflgemfeofciaaGreatDoorMY3
namespace Go.Proofs.YtjflgemfeofciaaGreatDoor
open Go Go.Ev
set_option linter.unusedVariables false
set_option linter.unusedSimpArgs false
set_option maxRecDepth 10000
end Go.Proofs.YtjflgemfeofciaaGreatDoor
