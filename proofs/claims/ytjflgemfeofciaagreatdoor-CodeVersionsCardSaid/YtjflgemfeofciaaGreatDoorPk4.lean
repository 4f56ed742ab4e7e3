import Derived.Test.YtjflgemfeofciaaGreatDoorPj4
/- Layer 4: CodeJudges holds. -/
namespace Go.Proofs.YtjflgemfeofciaaGreatDoor
open Go Go.Ev
set_option linter.unusedVariables false
set_option linter.unusedSimpArgs false
end Go.Proofs.YtjflgemfeofciaaGreatDoor
