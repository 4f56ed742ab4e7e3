import Derived.Test.YtjflgemfeofciaaGreatDoorLj4
/- Layer 4: the reference judges as package code does (plain law). -/
namespace Go.Proofs.YtjflgemfeofciaaGreatDoor
open Go Go.Ev
set_option linter.unusedVariables false
set_option linter.unusedSimpArgs false
end Go.Proofs.YtjflgemfeofciaaGreatDoor
