import Derived.Test.YtjflgemfeofciaaGreatDoorCk4
import Derived.Test.YtjflgemfeofciaaGreatDoorMX2
import Derived.Test.YtjflgemfeofciaaGreatDoorLawF
/- Layer 4: data that came in. -/
namespace Go.Proofs.YtjflgemfeofciaaGreatDoor
open Go Go.Ev Go.ChangeShapes Go.WideShapes
set_option linter.unusedVariables false
set_option linter.unusedSimpArgs false
set_option maxRecDepth 10000
section
variable {H : Type} {enc : TypeId × Value → H} {W : World} {cs : List Value}
end
end Go.Proofs.YtjflgemfeofciaaGreatDoor
